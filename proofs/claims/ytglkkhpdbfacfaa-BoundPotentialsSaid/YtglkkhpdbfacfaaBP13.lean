/- Part 13 of the texts behind the last one: rules and contracts. No condition. -/
import Derived.Test.YtglkkhpdbfacfaaBP12
open Bool renaming and_eq_true → vQJ, true_and → vZW
open List renaming getElem?_take → vZU, getD_eq_getElem?_getD → vZX
open Nat renaming eq_of_beq_eq_true → vQU
open Go.IntKind renaming wrap → vYX
namespace Go.Proofs.Ytglkkhpdbfacfaa.Cc
open Go.Rx Rt Go.Sx Go.RowKit Ba Bb Bc Bd Be Bf Bi Bj Bk Bl Bh Bm Bn Bo Bp Bq Br Bs Bt Bu Bv Bw Bx By Bz
noncomputable def jVF (x k:Int):OrS:=orS [] []
noncomputable def yWJ (x k:Int):List (List Nat × yJ):=[]
set_option maxRecDepth 100000 in
theorem jVV (x k:Int):qQU Tf (jVF x k) (qY (yWJ x k)) 60 14 [.n .i64 x,.n .i64 k] =
 (bif (decide (k=0)) then none
 else (bif (decide ((x.tmod k) < 0)) then some (.v (.n .i64 (vYX .i64 ((x.tmod k) + k))),[])
 else some (.v (.n .i64 (x.tmod k)),[]))):=by kernel_rfl
theorem yHW (x k:Int) (hk:0 < k∧k≤9223372036854775807):yZ Try.prog 14 [.n .i64 x,.n .i64 k] (.v (.n .i64 (x % k))):=by
 refine qG (N:=60) (LO:=qY (yWJ x k)) yW yU (yV (l:=[]) (m:=[]) trivial trivial) (fun p S hp => ?_) ?_
 ·refine qX (L:=qQ Tf 14) (l:=(yWJ x k)) (show AllP _ (yWJ x k) from trivial) p S hp
 ·refine (jVV x k).trans ?_;have hk0:k ≠ 0:=by omega
  have h1:=Int.emod_nonneg x hk0;have h2:=Int.emod_lt_of_pos x hk.1;rw [vYY (show ¬ k=0 by omega),Int.tmod_eq_emod];by_cases h:0≤x ∨ k ∣ x
  ·rw [if_pos h,show ((0:Nat):Int)=0 from rfl,Int.sub_zero,vYY (show ¬ x % k < 0 by omega)];rfl
  ·rw [if_neg h,show ((k.natAbs:Nat):Int)=k by omega,vYJ (show x % k - k < 0 by omega),show vYX .i64 (x % k - k + k)=x % k from by rw [show x % k - k + k=x % k by omega]; exact jJ (by omega)];rfl
def crn:Int × Int→Prop:=fun t=>match t with | (_,k)=>0 < k∧k≤9223372036854775807
def ern:Int × Int→List PV:=fun t=>match t with | (x,k)=>[.n .i64 x,.n .i64 k]
noncomputable def rrn:Int × Int→Ret:=fun t=>match t with | (x,k)=>.v (.n .i64 (x % k))
def drn:List PV→Int × Int:=fun ps=>match ps with
 | [.n _ x,.n _ k]=>(x,k)
 | _=>(0,0)
noncomputable def o_rn:List PV→Option (Bool × Ret):=o_fm drn crn ern rrn
theorem jZU:uV Try.prog 14 o_rn:=qQB fun t h=>by
 obtain ⟨x,k⟩:=t;exact yHW x k h
noncomputable def ornx (_ m:Nat) (e:Nat→Int) (k:Int):OrS:=orS [(14,o_rn)] []
noncomputable def lsnx (_ m:Nat) (e:Nat→Int) (k:Int):List (List Nat × yJ):=[]
set_option maxRecDepth 100000 in
theorem pxnx (wl m:Nat) (e:Nat→Int) (k:Int):zGD Tf (ornx wl m e k) (qY (lsnx wl m e k)) 60 30 [.p 1000000 0,.v (.n .i64 k)] [.lf wl (fQ e),.n .i64 (m:Int)] =
 (bif (decide ((wl:Int)≤(m:Int))) then some (.v (.t [.n .i64 0,.lf wl (fQ e),.n .i64 (m:Int)]),[])
 else (bif (inB (vYX .i64 ((vYX .i64 ((m:Int) + 1)) - 1)) wl) then (bif (gF1 crn ern ((e ((vYX .i64 ((vYX .i64 ((m:Int) + 1)) - 1))).toNat),k)) then some (.v (.t [.n .i64 ((e ((vYX .i64 ((vYX .i64 ((m:Int) + 1)) - 1))).toNat) % k),.lf wl (fQ e),.n .i64 (vYX .i64 ((m:Int) + 1))]),[])
 else none)
 else none)):=by kernel_rfl
theorem jJV (wl m:Nat) (e:Nat→Int) (k:Int) (_:m≤wl) (_:wl≤9223372036854775807) (hk:0 < k∧k≤9223372036854775807):yQK Try.prog 30 [.p 1000000 0,.v (.n .i64 k)] [.lf wl (fQ e),.n .i64 (m:Int)] (.n .i64 (nxV e wl m k)) ([.lf wl (fQ e),.n .i64 ((min (m + 1) wl:Nat):Int)]):=by
 refine zUH (N:=60) (LO:=qY (lsnx wl m e k)) yW yU (yV (l:=[(14,o_rn)]) (m:=[]) ⟨jZU,trivial⟩ trivial) (fun p S hp => ?_) ?_
 ·refine qX (L:=qQ Tf 30) (l:=(lsnx wl m e k)) (show AllP _ (lsnx wl m e k) from trivial) p S hp
 ·refine (pxnx wl m e k).trans ?_;unfold nxV eW;by_cases h:m < wl
  ·have h1:vYX .i64 ((m:Int) + 1)=(m:Int) + 1:=jJ (by omega);have h2:vYX .i64 ((m:Int) + 1 - 1)=((m:Nat):Int):=by rw [jJ (by omega)]; omega
   rw [vYY (show ¬ (wl:Int)≤(m:Int) by omega),h1,h2,zU h,toN,jK (C:=crn) (t:=(_,k)) hk,show Nat.blt m wl=true from by rw [Nat.blt_eq]; exact h,show min (m + 1) wl=m + 1 by omega];rfl
  ·rw [vYJ (show (wl:Int)≤(m:Int) by omega),show Nat.blt m wl=false from by rw [Bool.eq_false_iff,ne_eq,Nat.blt_eq]; exact h,show min (m + 1) wl=m by omega]
   simp
def cnx:Nat × Nat × (Nat→Int) × Int→Prop:=fun t=>match t with | (w,m,_,k)=>m≤w∧w≤9223372036854775807∧0 < k∧k≤9223372036854775807
def hnx:Nat × Nat × (Nat→Int) × Int→List HV:=fun t=>match t with | (_,_,_,k)=>[.p pid 0,.v (.n .i64 k)]
def enx:Nat × Nat × (Nat→Int) × Int→List PV:=fun t=>match t with | (w,m,e,_)=>[.lf w (fQ e),.n .i64 (m:Int)]
noncomputable def xnx:Nat × Nat × (Nat→Int) × Int→PV:=fun t=>match t with | (w,m,e,k)=>.n .i64 (nxV e w m k)
noncomputable def qnx:Nat × Nat × (Nat→Int) × Int→List PV:=fun t=>match t with | (w,m,e,_)=>[.lf w (fQ e),.n .i64 ((min (m + 1) w:Nat):Int)]
def dnx:List HV→List PV→Nat × Nat × (Nat→Int) × Int:=fun hs ps=>match hs,ps with
 | [_,.v (.n _ k)],[.lf w f,.n _ c]=>(w,c.toNat,unFQ f,k)
 | _,_=>(0,0,fun _=>0,0)
noncomputable def o_nx:List HV→List PV→Option (Bool × (PV × List PV)):=o_fb dnx cnx hnx enx xnx qnx
theorem jGH:yKA Try.prog 30 o_nx:=jGF fun t h=>by
 obtain ⟨w,m,e,k⟩:=t;exact jJV w m e k h.1 h.2.1 h.2.2
def clK (x:Int):Int:=bif decide (x=1) then 1 else bif decide (x=2) then 2 else 0
def clA (x:Int):Nat:=bif decide (x=1) then 1 else 0
def clB (x:Int):Nat:=bif decide (x=2) then 1 else 0
def clD (x:Int):Int:=bif decide (x=3) then 1 else 0
def clF:Nat→List PV:=fun _=>[.n .i64 0,.n .i64 0,.zs]
def clG:Nat→List PV:=fun _=>[.n .i64 1]
theorem jKQ (x:Int) (_:0≤x∧x≤3):yZ Try.prog 31 [.n .i64 x] (.v (.a [.n .i64 (clK x),.lf (clA x) clF,.n .i64 (clD x),.n .i64 0,.lf 0 clG,.n .i64 0,.lf (clB x) clG,.lf (clB x) clG])):=by
 have hs:x=0 ∨ x=1 ∨ x=2 ∨ x=3:=by omega
 rcases hs with rfl | rfl | rfl | rfl
 ·exact qZC (x:=.a [.n .i64 0,.l [],.n .i64 0,.n .i64 0,.l [],.n .i64 0,.l [],.l []]) (Same.a (xs:=[_,_,_,_,_,_,_,_]) ⟨Same.refl _,Same.lf rfl,Same.refl _,Same.refl _,Same.lf rfl,Same.refl _,Same.lf rfl,Same.lf rfl,trivial⟩) (qZK (N:=60) qYB yU qWC (by kernel_rfl))
 ·exact qZC (x:=.a [.n .i64 1,.l [[.n .i64 0,.n .i64 0,.zs]],.n .i64 0,.n .i64 0,.l [],.n .i64 0,.l [],.l []]) (Same.a (xs:=[_,_,_,_,_,_,_,_]) ⟨Same.refl _,Same.lf rfl,Same.refl _,Same.refl _,Same.lf rfl,Same.refl _,Same.lf rfl,Same.lf rfl,trivial⟩) (qZK (N:=60) qYB yU qWC (by kernel_rfl))
 ·exact qZC (x:=.a [.n .i64 2,.l [],.n .i64 0,.n .i64 0,.l [],.n .i64 0,.l [[.n .i64 1]],.l [[.n .i64 1]]]) (Same.a (xs:=[_,_,_,_,_,_,_,_]) ⟨Same.refl _,Same.lf rfl,Same.refl _,Same.refl _,Same.lf rfl,Same.refl _,Same.lf rfl,Same.lf rfl,trivial⟩) (qZK (N:=60) qYB yU qWC (by kernel_rfl))
 ·exact qZC (x:=.a [.n .i64 0,.l [],.n .i64 1,.n .i64 0,.l [],.n .i64 0,.l [],.l []]) (Same.a (xs:=[_,_,_,_,_,_,_,_]) ⟨Same.refl _,Same.lf rfl,Same.refl _,Same.refl _,Same.lf rfl,Same.refl _,Same.lf rfl,Same.lf rfl,trivial⟩) (qZK (N:=60) qYB yU qWC (by kernel_rfl))
def ccl:Int→Prop:=fun t=>match t with | x=>0≤x∧x≤3
def ecl:Int→List PV:=fun t=>match t with | x=>[.n .i64 x]
noncomputable def rcl:Int→Ret:=fun t=>match t with | x=>.v (.a [.n .i64 (clK x),.lf (clA x) clF,.n .i64 (clD x),.n .i64 0,.lf 0 clG,.n .i64 0,.lf (clB x) clG,.lf (clB x) clG])
def dcl:List PV→Int:=fun ps=>match ps with
 | [.n _ x]=>x
 | _=>0
noncomputable def o_cl:List PV→Option (Bool × Ret):=o_fm dcl ccl ecl rcl
theorem jHZ:uV Try.prog 31 o_cl:=qQB fun t h=>by
 revert h; revert t; intro x h
 exact jKQ x h
noncomputable def org0 (N _:Nat) (e:Nat→Int):OrS:=orS [(31,o_cl)] [(30,o_nx)]
def gsF (x:Int):Int:=(bif (decide (x=0)) then 0 else (bif (decide ((x - 1)=0)) then 0 else (bif (decide (((x - 1) - 1)=0)) then 1 else (bif (decide ((((x - 1) - 1) - 1)=0)) then 1 else (bif (decide (((((x - 1) - 1) - 1) - 1)=0)) then 1 else (bif (decide ((((((x - 1) - 1) - 1) - 1) - 1)=0)) then 2 else (bif (decide (((((((x - 1) - 1) - 1) - 1) - 1) - 1)=0)) then 3 else 1)))))))
noncomputable def hg0 (N wl:Nat) (e:Nat→Int) (i:Int) (rn:Nat) (f:Nat→List PV):St:=⟨[(2,.p 2 0),(3,.p 11 0),(4,.p 4 0),(5,.v (.n .i64 (vYX .i64 (2 + (nxV e wl 0 8))))),(6,.v (.n .i64 i))],[(2,.blk [.nl,.nl]),(4,.blk [.o 25,.nl]),(11,.blk [.v (.lf wl (fQ e)),.v (.n .i64 ((mA wl 0 1:Nat):Int))]),(25,.reg 26 1 (.fo rn f))]⟩
set_option maxRecDepth 100000 in
theorem rdg0 (G:St→Option (Ret × Mem)) (K:Cont) (N wl:Nat) (e:Nat→Int) (i:Int) (rn:Nat) (f:Nat→List PV):zH (N + 10) (cxS Tf (org0 N wl e) (N + 10) 11 (ntmF Tf 11)) (evX Tf (org0 N wl e) (N + 10) 11 (ntmF Tf 11)) (qY []) (qQ Tf 11 [0,1,0,1,1,1,1]) [0,1,0,1,1,1,1] (Tf.hint 11 (qJ (qQ Tf 11 [0,1,0,1,1,1,1]))) K G (hg0 N wl e i rn f) =
 (bif (decide (i < (vYX .i64 (2 + (nxV e wl 0 8))))) then (bif (decide (rn + 1≤1000000)) then (G (hg0 N wl e (vYX .i64 (i + 1)) (rn + 1) (fun v=>kU (Nat.beq v rn) [.l [[.n .i64 i]]] (f v))))
 else none)
 else (K (.exit 0) ⟨[(2,.p 2 0),(3,.p 11 0),(4,.p 4 0),(5,.v (.n .i64 (vYX .i64 (2 + (nxV e wl 0 8)))))],[(2,.blk [.nl,.nl]),(4,.blk [.o 25,.nl]),(11,.blk [.v (.lf wl (fQ e)),.v (.n .i64 ((mA wl 0 1:Nat):Int))]),(25,.reg 26 1 (.fo rn f))]⟩)):=by kernel_rfl
noncomputable def dcg0 (wl:Nat) (e:Nat→Int):(Int × Nat × (Nat→List PV))→(Int × Nat × (Nat→List PV)) ⊕ (Nat × Int × Nat × (Nat→List PV)):=fun t=>match t with | (i,rn,f)=>(bif (decide (i < (vYX .i64 (2 + (nxV e wl 0 8))))) then (bif (decide (rn + 1≤1000000)) then (.inl ((vYX .i64 (i + 1)),(rn + 1),(fun v=>kU (Nat.beq v rn) [.l [[.n .i64 i]]] (f v)))) else (.inr (1,(i,rn,f)))) else (.inr (0,(i,rn,f))))
noncomputable def kxg0 (N wl:Nat) (e:Nat→Int) (K:Cont) (w9:Nat × Int × Nat × (Nat→List PV)):Option (Ret × Mem):=bif Nat.beq w9.1 0 then (K (.exit 0) ⟨[(2,.p 2 0),(3,.p 11 0),(4,.p 4 0),(5,.v (.n .i64 (vYX .i64 (2 + (nxV e wl 0 8)))))],[(2,.blk [.nl,.nl]),(4,.blk [.o 25,.nl]),(11,.blk [.v (.lf wl (fQ e)),.v (.n .i64 ((mA wl 0 1:Nat):Int))]),(25,.reg 26 1 (.fo w9.2.2.1 w9.2.2.2))]⟩) else none
theorem wlg0 (K:Cont) (N wl:Nat) (e:Nat→Int):∀ n9 (t:(Int × Nat × (Nat→List PV))),LFX (N + 10) (cxS Tf (org0 N wl e) (N + 10) 11 (ntmF Tf 11)) (evX Tf (org0 N wl e) (N + 10) 11 (ntmF Tf 11)) (qY []) (qQ Tf 11 [0,1,0,1,1,1,1]) [0,1,0,1,1,1,1] (Tf.hint 11 (qJ (qQ Tf 11 [0,1,0,1,1,1,1]))) K n9 (hg0 N wl e t.1 t.2.1 t.2.2)=(qW (dcg0 wl e) n9 t).bind (kxg0 N wl e K):=fun n9 t=>by
 refine qQG (L:=LFX (N + 10) (cxS Tf (org0 N wl e) (N + 10) 11 (ntmF Tf 11)) (evX Tf (org0 N wl e) (N + 10) 11 (ntmF Tf 11)) (qY []) (qQ Tf 11 [0,1,0,1,1,1,1]) [0,1,0,1,1,1,1] (Tf.hint 11 (qJ (qQ Tf 11 [0,1,0,1,1,1,1]))) K) (stp:=zH (N + 10) (cxS Tf (org0 N wl e) (N + 10) 11 (ntmF Tf 11)) (evX Tf (org0 N wl e) (N + 10) 11 (ntmF Tf 11)) (qY []) (qQ Tf 11 [0,1,0,1,1,1,1]) [0,1,0,1,1,1,1] (Tf.hint 11 (qJ (qQ Tf 11 [0,1,0,1,1,1,1]))) K) (fun _ _=>rfl) (fun _=>rfl) (fun t=>hg0 N wl e t.1 t.2.1 t.2.2) (fun _=>True) (dcg0 wl e) (kxg0 N wl e K) (fun G t _ => ?_) (fun _ _ _ _=>trivial) n9 t trivial;obtain ⟨i,rn,f⟩:=t;refine (rdg0 G K N wl e i rn f).trans ?_;dsimp only [dcg0];cases (decide (i < (vYX .i64 (2 + (nxV e wl 0 8)))))
 ·rfl
 ·cases (decide (rn + 1≤1000000))
  ·rfl
  ·rfl
noncomputable def zHW (N:Nat) (wl:Nat) (e:Nat→Int) (t:(Int × Nat × (Nat→List PV))):Bool:=(qW (dcg0 wl e) (N + 10) t).isSome
noncomputable def qZH (N:Nat) (wl:Nat) (e:Nat→Int) (t:(Int × Nat × (Nat→List PV))):Nat × Int × Nat × (Nat→List PV):=(qW (dcg0 wl e) (N + 10) t).getD (99,t)
theorem lwg0 (K:Cont) (N wl:Nat) (e:Nat→Int) (t:(Int × Nat × (Nat→List PV))) (hg:zHW N wl e t=true):LFX (N + 10) (cxS Tf (org0 N wl e) (N + 10) 11 (ntmF Tf 11)) (evX Tf (org0 N wl e) (N + 10) 11 (ntmF Tf 11)) (qY []) (qQ Tf 11 [0,1,0,1,1,1,1]) [0,1,0,1,1,1,1] (Tf.hint 11 (qJ (qQ Tf 11 [0,1,0,1,1,1,1]))) K (N + 10) (hg0 N wl e t.1 t.2.1 t.2.2)=kxg0 N wl e K (qZH N wl e t):=by
 refine (wlg0 K N wl e (N + 10) t).trans ?_;unfold zHW at hg;unfold qZH;cases h:qW (dcg0 wl e) (N + 10) t with
 | none=>rw [h] at hg; cases hg
 | some y=>rfl
noncomputable def hg2 (N wl:Nat) (e:Nat→Int) (x:Int) (y:Int) (m2:Nat) (pn:Nat) (pf:Nat→List PV) (rn:Nat) (f:Nat→List PV):St:=⟨[(2,.p 2 0),(3,.p 11 0),(4,.p 4 0),(5,.v (.n .i64 (vYX .i64 (2 + (nxV e wl 0 8))))),(7,.v (.n .i64 x)),(8,.v (.n .i64 y))],[(2,.blk [.nl,.nl]),(4,.blk [.o 25,.o 59]),(11,.blk [.v (.lf wl (fQ e)),.v (.n .i64 (m2:Int))]),(25,.reg 26 1 (.fo pn pf)),(59,.reg 66 12 (.fo rn f))]⟩
set_option maxRecDepth 100000 in
theorem rdg2 (G:St→Option (Ret × Mem)) (K:Cont) (N wl:Nat) (e:Nat→Int) (x:Int) (y:Int) (m2:Nat) (pn:Nat) (pf:Nat→List PV) (rn:Nat) (f:Nat→List PV):zH (N + 10) (cxS Tf (org0 N wl e) (N + 10) 11 (ntmF Tf 11)) (evX Tf (org0 N wl e) (N + 10) 11 (ntmF Tf 11)) (qY []) (qQ Tf 11 [0,1,0,0,1,0,0,1,0,1,1,1,1,1]) [0,1,0,0,1,0,0,1,0,1,1,1,1,1] (Tf.hint 11 (qJ (qQ Tf 11 [0,1,0,0,1,0,0,1,0,1,1,1,1,1]))) K G (hg2 N wl e x y m2 pn pf rn f) =
 (bif (decide (y < (vYX .i64 (2 + (nxV e wl 0 8))))) then (bif (gB1 cnx hnx enx (wl,m2,e,5)) then (bif (decide ((nxV e wl m2 5) < 2)) then (bif (gB1 cnx hnx enx (wl,(mA wl m2 1),e,7)) then (bif (gB1 cnx hnx enx (wl,(mA wl m2 2),e,8)) then (bif (inB (nxV e wl (mA wl m2 2) 8) 8 && true) then (bif (gF1 ccl ecl (gsF (nxV e wl (mA wl m2 2) 8))) then (bif (decide (rn + 1≤1000000)) then (G (hg2 N wl e x (vYX .i64 (y + 1)) (mA wl m2 3) pn pf (rn + 1) (fun v=>kU (Nat.beq v rn) [.n .i64 x,.n .i64 y,.n .i64 (nxV e wl (mA wl m2 1) 7),.n .i64 (gsF (nxV e wl (mA wl m2 2) 8)),.n .i64 (clK (gsF (nxV e wl (mA wl m2 2) 8))),.lf (clA (gsF (nxV e wl (mA wl m2 2) 8))) clF,.n .i64 (clD (gsF (nxV e wl (mA wl m2 2) 8))),.n .i64 0,.lf 0 clG,.n .i64 0,.lf (clB (gsF (nxV e wl (mA wl m2 2) 8))) clG,.lf (clB (gsF (nxV e wl (mA wl m2 2) 8))) clG] (f v))))
 else none)
 else none)
 else none)
 else none)
 else none)
 else (G (hg2 N wl e x (vYX .i64 (y + 1)) (mA wl m2 1) pn pf rn f)))
 else none)
 else (K (.exit 4) ⟨[(2,.p 2 0),(3,.p 11 0),(4,.p 4 0),(5,.v (.n .i64 (vYX .i64 (2 + (nxV e wl 0 8))))),(7,.v (.n .i64 x))],[(2,.blk [.nl,.nl]),(4,.blk [.o 25,.o 59]),(11,.blk [.v (.lf wl (fQ e)),.v (.n .i64 (m2:Int))]),(25,.reg 26 1 (.fo pn pf)),(59,.reg 66 12 (.fo rn f))]⟩)):=by kernel_rfl
noncomputable def dcg2 (wl:Nat) (e:Nat→Int):(Int × Int × Nat × Nat × (Nat→List PV) × Nat × (Nat→List PV))→(Int × Int × Nat × Nat × (Nat→List PV) × Nat × (Nat→List PV)) ⊕ (Nat × Int × Int × Nat × Nat × (Nat→List PV) × Nat × (Nat→List PV)):=fun t=>match t with | (x,y,m2,pn,pf,rn,f)=>(bif (decide (y < (vYX .i64 (2 + (nxV e wl 0 8))))) then (bif (gB1 cnx hnx enx (wl,m2,e,5)) then (bif (decide ((nxV e wl m2 5) < 2)) then (bif (gB1 cnx hnx enx (wl,(mA wl m2 1),e,7)) then (bif (gB1 cnx hnx enx (wl,(mA wl m2 2),e,8)) then (bif (inB (nxV e wl (mA wl m2 2) 8) 8 && true) then (bif (gF1 ccl ecl (gsF (nxV e wl (mA wl m2 2) 8))) then (bif (decide (rn + 1≤1000000)) then (.inl (x,(vYX .i64 (y + 1)),(mA wl m2 3),pn,pf,(rn + 1),(fun v=>kU (Nat.beq v rn) [.n .i64 x,.n .i64 y,.n .i64 (nxV e wl (mA wl m2 1) 7),.n .i64 (gsF (nxV e wl (mA wl m2 2) 8)),.n .i64 (clK (gsF (nxV e wl (mA wl m2 2) 8))),.lf (clA (gsF (nxV e wl (mA wl m2 2) 8))) clF,.n .i64 (clD (gsF (nxV e wl (mA wl m2 2) 8))),.n .i64 0,.lf 0 clG,.n .i64 0,.lf (clB (gsF (nxV e wl (mA wl m2 2) 8))) clG,.lf (clB (gsF (nxV e wl (mA wl m2 2) 8))) clG] (f v)))) else (.inr (1,(x,y,m2,pn,pf,rn,f)))) else (.inr (1,(x,y,m2,pn,pf,rn,f)))) else (.inr (1,(x,y,m2,pn,pf,rn,f)))) else (.inr (1,(x,y,m2,pn,pf,rn,f)))) else (.inr (1,(x,y,m2,pn,pf,rn,f)))) else (.inl (x,(vYX .i64 (y + 1)),(mA wl m2 1),pn,pf,rn,f))) else (.inr (1,(x,y,m2,pn,pf,rn,f)))) else (.inr (0,(x,y,m2,pn,pf,rn,f))))
noncomputable def kxg2 (N wl:Nat) (e:Nat→Int) (K:Cont) (w9:Nat × Int × Int × Nat × Nat × (Nat→List PV) × Nat × (Nat→List PV)):Option (Ret × Mem):=bif Nat.beq w9.1 0 then (K (.exit 4) ⟨[(2,.p 2 0),(3,.p 11 0),(4,.p 4 0),(5,.v (.n .i64 (vYX .i64 (2 + (nxV e wl 0 8))))),(7,.v (.n .i64 w9.2.1))],[(2,.blk [.nl,.nl]),(4,.blk [.o 25,.o 59]),(11,.blk [.v (.lf wl (fQ e)),.v (.n .i64 (w9.2.2.2.1:Int))]),(25,.reg 26 1 (.fo w9.2.2.2.2.1 w9.2.2.2.2.2.1)),(59,.reg 66 12 (.fo w9.2.2.2.2.2.2.1 w9.2.2.2.2.2.2.2))]⟩) else none
theorem wlg2 (K:Cont) (N wl:Nat) (e:Nat→Int):∀ n9 (t:(Int × Int × Nat × Nat × (Nat→List PV) × Nat × (Nat→List PV))),LFX (N + 10) (cxS Tf (org0 N wl e) (N + 10) 11 (ntmF Tf 11)) (evX Tf (org0 N wl e) (N + 10) 11 (ntmF Tf 11)) (qY []) (qQ Tf 11 [0,1,0,0,1,0,0,1,0,1,1,1,1,1]) [0,1,0,0,1,0,0,1,0,1,1,1,1,1] (Tf.hint 11 (qJ (qQ Tf 11 [0,1,0,0,1,0,0,1,0,1,1,1,1,1]))) K n9 (hg2 N wl e t.1 t.2.1 t.2.2.1 t.2.2.2.1 t.2.2.2.2.1 t.2.2.2.2.2.1 t.2.2.2.2.2.2)=(qW (dcg2 wl e) n9 t).bind (kxg2 N wl e K):=fun n9 t=>by
 refine qQG (L:=LFX (N + 10) (cxS Tf (org0 N wl e) (N + 10) 11 (ntmF Tf 11)) (evX Tf (org0 N wl e) (N + 10) 11 (ntmF Tf 11)) (qY []) (qQ Tf 11 [0,1,0,0,1,0,0,1,0,1,1,1,1,1]) [0,1,0,0,1,0,0,1,0,1,1,1,1,1] (Tf.hint 11 (qJ (qQ Tf 11 [0,1,0,0,1,0,0,1,0,1,1,1,1,1]))) K) (stp:=zH (N + 10) (cxS Tf (org0 N wl e) (N + 10) 11 (ntmF Tf 11)) (evX Tf (org0 N wl e) (N + 10) 11 (ntmF Tf 11)) (qY []) (qQ Tf 11 [0,1,0,0,1,0,0,1,0,1,1,1,1,1]) [0,1,0,0,1,0,0,1,0,1,1,1,1,1] (Tf.hint 11 (qJ (qQ Tf 11 [0,1,0,0,1,0,0,1,0,1,1,1,1,1]))) K) (fun _ _=>rfl) (fun _=>rfl) (fun t=>hg2 N wl e t.1 t.2.1 t.2.2.1 t.2.2.2.1 t.2.2.2.2.1 t.2.2.2.2.2.1 t.2.2.2.2.2.2) (fun _=>True) (dcg2 wl e) (kxg2 N wl e K) (fun G t _ => ?_) (fun _ _ _ _=>trivial) n9 t trivial;obtain ⟨x,y,m2,pn,pf,rn,f⟩:=t;refine (rdg2 G K N wl e x y m2 pn pf rn f).trans ?_;dsimp only [dcg2];cases (decide (y < (vYX .i64 (2 + (nxV e wl 0 8)))))
 ·rfl
 ·cases (gB1 cnx hnx enx (wl,m2,e,5))
  ·rfl
  ·cases (decide ((nxV e wl m2 5) < 2))
   ·rfl
   ·cases (gB1 cnx hnx enx (wl,(mA wl m2 1),e,7))
    ·rfl
    ·cases (gB1 cnx hnx enx (wl,(mA wl m2 2),e,8))
     ·rfl
     ·cases (inB (nxV e wl (mA wl m2 2) 8) 8 && true)
      ·rfl
      ·cases (gF1 ccl ecl (gsF (nxV e wl (mA wl m2 2) 8)))
       ·rfl
       ·cases (decide (rn + 1≤1000000))
        ·rfl
        ·rfl
noncomputable def qJD (N:Nat) (wl:Nat) (e:Nat→Int) (t:(Int × Int × Nat × Nat × (Nat→List PV) × Nat × (Nat→List PV))):Bool:=(qW (dcg2 wl e) (N + 10) t).isSome
noncomputable def qQA (N:Nat) (wl:Nat) (e:Nat→Int) (t:(Int × Int × Nat × Nat × (Nat→List PV) × Nat × (Nat→List PV))):Nat × Int × Int × Nat × Nat × (Nat→List PV) × Nat × (Nat→List PV):=(qW (dcg2 wl e) (N + 10) t).getD (99,t)
theorem lwg2 (K:Cont) (N wl:Nat) (e:Nat→Int) (t:(Int × Int × Nat × Nat × (Nat→List PV) × Nat × (Nat→List PV))) (hg:qJD N wl e t=true):LFX (N + 10) (cxS Tf (org0 N wl e) (N + 10) 11 (ntmF Tf 11)) (evX Tf (org0 N wl e) (N + 10) 11 (ntmF Tf 11)) (qY []) (qQ Tf 11 [0,1,0,0,1,0,0,1,0,1,1,1,1,1]) [0,1,0,0,1,0,0,1,0,1,1,1,1,1] (Tf.hint 11 (qJ (qQ Tf 11 [0,1,0,0,1,0,0,1,0,1,1,1,1,1]))) K (N + 10) (hg2 N wl e t.1 t.2.1 t.2.2.1 t.2.2.2.1 t.2.2.2.2.1 t.2.2.2.2.2.1 t.2.2.2.2.2.2)=kxg2 N wl e K (qQA N wl e t):=by
 refine (wlg2 K N wl e (N + 10) t).trans ?_;unfold qJD at hg;unfold qQA;cases h:qW (dcg2 wl e) (N + 10) t with
 | none=>rw [h] at hg; cases hg
 | some y=>rfl
theorem okg2 (N wl:Nat) (e:Nat→Int):∀ p S,qY [([0,1,0,0,1,0,0,1,0,1,1,1,1,1],sumF (fun t:(Int × Int × Nat × Nat × (Nat→List PV) × Nat × (Nat→List PV))=>(hg2 N wl e t.1 t.2.1 t.2.2.1 t.2.2.2.1 t.2.2.2.2.1 t.2.2.2.2.2.1 t.2.2.2.2.2.2)) (fun σ=>(slI σ 7,slI σ 8,(bkC σ 11 1).toNat,rgN σ 25,rgF σ 25,rgN σ 59,rgF σ 59)) (fun t K=>(bif qJD N wl e t then kxg2 N wl e K (qQA N wl e t) else none)))] p=some S→kK (N + 10) (cxS Tf (org0 N wl e) (N + 10) 11 (ntmF Tf 11)) (qQ Tf 11 p) S:=fun p S hp=>by
 refine qX (L:=qQ Tf 11) (l:=[([0,1,0,0,1,0,0,1,0,1,1,1,1,1],sumF (fun t:(Int × Int × Nat × Nat × (Nat→List PV) × Nat × (Nat→List PV))=>(hg2 N wl e t.1 t.2.1 t.2.2.1 t.2.2.2.1 t.2.2.2.2.1 t.2.2.2.2.2.1 t.2.2.2.2.2.2)) (fun σ=>(slI σ 7,slI σ 8,(bkC σ 11 1).toNat,rgN σ 25,rgF σ 25,rgN σ 59,rgF σ 59)) (fun t K=>(bif qJD N wl e t then kxg2 N wl e K (qQA N wl e t) else none)))]) ⟨?_,trivial⟩ p S hp;dsimp only;refine yY (T:=Tf) (o:=(org0 N wl e)) (f:=11) (LO:=qY []) (p:=[0,1,0,0,1,0,0,1,0,1,1,1,1,1]) yG ?_;intro t K r hr;obtain ⟨hg,hr⟩:=qZ hr
 skip
 exact (lwg2 K N wl e t hg).trans hr
noncomputable def hg1 (N wl:Nat) (e:Nat→Int) (x:Int) (m2:Nat) (pn:Nat) (pf:Nat→List PV) (rn:Nat) (f:Nat→List PV):St:=⟨[(2,.p 2 0),(3,.p 11 0),(4,.p 4 0),(5,.v (.n .i64 (vYX .i64 (2 + (nxV e wl 0 8))))),(7,.v (.n .i64 x))],[(2,.blk [.nl,.nl]),(4,.blk [.o 25,.o 59]),(11,.blk [.v (.lf wl (fQ e)),.v (.n .i64 (m2:Int))]),(25,.reg 26 1 (.fo pn pf)),(59,.reg 66 12 (.fo rn f))]⟩
set_option maxRecDepth 100000 in
theorem rdg1 (G:St→Option (Ret × Mem)) (K:Cont) (N wl:Nat) (e:Nat→Int) (x:Int) (m2:Nat) (pn:Nat) (pf:Nat→List PV) (rn:Nat) (f:Nat→List PV):zH (N + 10) (cxS Tf (org0 N wl e) (N + 10) 11 (ntmF Tf 11)) (evX Tf (org0 N wl e) (N + 10) 11 (ntmF Tf 11)) (qY [([0,1,0,0,1,0,0,1,0,1,1,1,1,1],sumF (fun t:(Int × Int × Nat × Nat × (Nat→List PV) × Nat × (Nat→List PV))=>(hg2 N wl e t.1 t.2.1 t.2.2.1 t.2.2.2.1 t.2.2.2.2.1 t.2.2.2.2.2.1 t.2.2.2.2.2.2)) (fun σ=>(slI σ 7,slI σ 8,(bkC σ 11 1).toNat,rgN σ 25,rgF σ 25,rgN σ 59,rgF σ 59)) (fun t K=>(bif qJD N wl e t then kxg2 N wl e K (qQA N wl e t) else none)))]) (qQ Tf 11 [0,1,0,1,1,1,1,1]) [0,1,0,1,1,1,1,1] (Tf.hint 11 (qJ (qQ Tf 11 [0,1,0,1,1,1,1,1]))) K G (hg1 N wl e x m2 pn pf rn f) =
 (bif (decide (x < (vYX .i64 (2 + (nxV e wl 0 8))))) then (bif (gSt (hg2 N wl e x (vYX .i64 (x + 1)) m2 pn pf rn f) (hg2 N wl e x (vYX .i64 (x + 1)) m2 pn pf rn f)) then (bif (qJD N wl e (x,(vYX .i64 (x + 1)),m2,pn,pf,rn,f)) then (bif (Nat.beq (qQA N wl e (x,(vYX .i64 (x + 1)),m2,pn,pf,rn,f)).1 0) then (G (hg1 N wl e (vYX .i64 ((qQA N wl e (x,(vYX .i64 (x + 1)),m2,pn,pf,rn,f)).2.1 + 1)) ((qQA N wl e (x,(vYX .i64 (x + 1)),m2,pn,pf,rn,f)).2.2.2.1) (qQA N wl e (x,(vYX .i64 (x + 1)),m2,pn,pf,rn,f)).2.2.2.2.1 (qQA N wl e (x,(vYX .i64 (x + 1)),m2,pn,pf,rn,f)).2.2.2.2.2.1 (qQA N wl e (x,(vYX .i64 (x + 1)),m2,pn,pf,rn,f)).2.2.2.2.2.2.1 (qQA N wl e (x,(vYX .i64 (x + 1)),m2,pn,pf,rn,f)).2.2.2.2.2.2.2))
 else none)
 else none)
 else none)
 else (K (.exit 2) ⟨[(2,.p 2 0),(4,.p 4 0)],[(2,.blk [.nl,.nl]),(4,.blk [.o 25,.o 59]),(25,.reg 26 1 (.fo pn pf)),(59,.reg 66 12 (.fo rn f))]⟩)):=by kernel_rfl
noncomputable def dcg1 (N wl:Nat) (e:Nat→Int):(Int × Nat × Nat × (Nat→List PV) × Nat × (Nat→List PV))→(Int × Nat × Nat × (Nat→List PV) × Nat × (Nat→List PV)) ⊕ (Nat × Int × Nat × Nat × (Nat→List PV) × Nat × (Nat→List PV)):=fun t=>match t with | (x,m2,pn,pf,rn,f)=>(bif (decide (x < (vYX .i64 (2 + (nxV e wl 0 8))))) then (bif (gSt (hg2 N wl e x (vYX .i64 (x + 1)) m2 pn pf rn f) (hg2 N wl e x (vYX .i64 (x + 1)) m2 pn pf rn f)) then (bif (qJD N wl e (x,(vYX .i64 (x + 1)),m2,pn,pf,rn,f)) then (bif (Nat.beq (qQA N wl e (x,(vYX .i64 (x + 1)),m2,pn,pf,rn,f)).1 0) then (.inl ((vYX .i64 ((qQA N wl e (x,(vYX .i64 (x + 1)),m2,pn,pf,rn,f)).2.1 + 1)),((qQA N wl e (x,(vYX .i64 (x + 1)),m2,pn,pf,rn,f)).2.2.2.1),(qQA N wl e (x,(vYX .i64 (x + 1)),m2,pn,pf,rn,f)).2.2.2.2.1,(qQA N wl e (x,(vYX .i64 (x + 1)),m2,pn,pf,rn,f)).2.2.2.2.2.1,(qQA N wl e (x,(vYX .i64 (x + 1)),m2,pn,pf,rn,f)).2.2.2.2.2.2.1,(qQA N wl e (x,(vYX .i64 (x + 1)),m2,pn,pf,rn,f)).2.2.2.2.2.2.2)) else (.inr (1,(x,m2,pn,pf,rn,f)))) else (.inr (1,(x,m2,pn,pf,rn,f)))) else (.inr (1,(x,m2,pn,pf,rn,f)))) else (.inr (0,(x,m2,pn,pf,rn,f))))
noncomputable def kxg1 (N _:Nat) (e:Nat→Int) (K:Cont) (w9:Nat × Int × Nat × Nat × (Nat→List PV) × Nat × (Nat→List PV)):Option (Ret × Mem):=bif Nat.beq w9.1 0 then (K (.exit 2) ⟨[(2,.p 2 0),(4,.p 4 0)],[(2,.blk [.nl,.nl]),(4,.blk [.o 25,.o 59]),(25,.reg 26 1 (.fo w9.2.2.2.1 w9.2.2.2.2.1)),(59,.reg 66 12 (.fo w9.2.2.2.2.2.1 w9.2.2.2.2.2.2))]⟩) else none
theorem wlg1 (K:Cont) (N wl:Nat) (e:Nat→Int):∀ n9 (t:(Int × Nat × Nat × (Nat→List PV) × Nat × (Nat→List PV))),LFX (N + 10) (cxS Tf (org0 N wl e) (N + 10) 11 (ntmF Tf 11)) (evX Tf (org0 N wl e) (N + 10) 11 (ntmF Tf 11)) (qY [([0,1,0,0,1,0,0,1,0,1,1,1,1,1],sumF (fun t:(Int × Int × Nat × Nat × (Nat→List PV) × Nat × (Nat→List PV))=>(hg2 N wl e t.1 t.2.1 t.2.2.1 t.2.2.2.1 t.2.2.2.2.1 t.2.2.2.2.2.1 t.2.2.2.2.2.2)) (fun σ=>(slI σ 7,slI σ 8,(bkC σ 11 1).toNat,rgN σ 25,rgF σ 25,rgN σ 59,rgF σ 59)) (fun t K=>(bif qJD N wl e t then kxg2 N wl e K (qQA N wl e t) else none)))]) (qQ Tf 11 [0,1,0,1,1,1,1,1]) [0,1,0,1,1,1,1,1] (Tf.hint 11 (qJ (qQ Tf 11 [0,1,0,1,1,1,1,1]))) K n9 (hg1 N wl e t.1 t.2.1 t.2.2.1 t.2.2.2.1 t.2.2.2.2.1 t.2.2.2.2.2)=(qW (dcg1 N wl e) n9 t).bind (kxg1 N wl e K):=fun n9 t=>by
 refine qQG (L:=LFX (N + 10) (cxS Tf (org0 N wl e) (N + 10) 11 (ntmF Tf 11)) (evX Tf (org0 N wl e) (N + 10) 11 (ntmF Tf 11)) (qY [([0,1,0,0,1,0,0,1,0,1,1,1,1,1],sumF (fun t:(Int × Int × Nat × Nat × (Nat→List PV) × Nat × (Nat→List PV))=>(hg2 N wl e t.1 t.2.1 t.2.2.1 t.2.2.2.1 t.2.2.2.2.1 t.2.2.2.2.2.1 t.2.2.2.2.2.2)) (fun σ=>(slI σ 7,slI σ 8,(bkC σ 11 1).toNat,rgN σ 25,rgF σ 25,rgN σ 59,rgF σ 59)) (fun t K=>(bif qJD N wl e t then kxg2 N wl e K (qQA N wl e t) else none)))]) (qQ Tf 11 [0,1,0,1,1,1,1,1]) [0,1,0,1,1,1,1,1] (Tf.hint 11 (qJ (qQ Tf 11 [0,1,0,1,1,1,1,1]))) K) (stp:=zH (N + 10) (cxS Tf (org0 N wl e) (N + 10) 11 (ntmF Tf 11)) (evX Tf (org0 N wl e) (N + 10) 11 (ntmF Tf 11)) (qY [([0,1,0,0,1,0,0,1,0,1,1,1,1,1],sumF (fun t:(Int × Int × Nat × Nat × (Nat→List PV) × Nat × (Nat→List PV))=>(hg2 N wl e t.1 t.2.1 t.2.2.1 t.2.2.2.1 t.2.2.2.2.1 t.2.2.2.2.2.1 t.2.2.2.2.2.2)) (fun σ=>(slI σ 7,slI σ 8,(bkC σ 11 1).toNat,rgN σ 25,rgF σ 25,rgN σ 59,rgF σ 59)) (fun t K=>(bif qJD N wl e t then kxg2 N wl e K (qQA N wl e t) else none)))]) (qQ Tf 11 [0,1,0,1,1,1,1,1]) [0,1,0,1,1,1,1,1] (Tf.hint 11 (qJ (qQ Tf 11 [0,1,0,1,1,1,1,1]))) K) (fun _ _=>rfl) (fun _=>rfl) (fun t=>hg1 N wl e t.1 t.2.1 t.2.2.1 t.2.2.2.1 t.2.2.2.2.1 t.2.2.2.2.2) (fun _=>True) (dcg1 N wl e) (kxg1 N wl e K) (fun G t _ => ?_) (fun _ _ _ _=>trivial) n9 t trivial;obtain ⟨x,m2,pn,pf,rn,f⟩:=t;refine (rdg1 G K N wl e x m2 pn pf rn f).trans ?_;dsimp only [dcg1];cases (decide (x < (vYX .i64 (2 + (nxV e wl 0 8)))))
 ·rfl
 ·cases (gSt (hg2 N wl e x (vYX .i64 (x + 1)) m2 pn pf rn f) (hg2 N wl e x (vYX .i64 (x + 1)) m2 pn pf rn f))
  ·rfl
  ·cases (qJD N wl e (x,(vYX .i64 (x + 1)),m2,pn,pf,rn,f))
   ·rfl
   ·cases (Nat.beq (qQA N wl e (x,(vYX .i64 (x + 1)),m2,pn,pf,rn,f)).1 0)
    ·rfl
    ·rfl
noncomputable def zHX (N:Nat) (N wl:Nat) (e:Nat→Int) (t:(Int × Nat × Nat × (Nat→List PV) × Nat × (Nat→List PV))):Bool:=(qW (dcg1 N wl e) (N + 10) t).isSome
noncomputable def qGB (N:Nat) (N wl:Nat) (e:Nat→Int) (t:(Int × Nat × Nat × (Nat→List PV) × Nat × (Nat→List PV))):Nat × Int × Nat × Nat × (Nat→List PV) × Nat × (Nat→List PV):=(qW (dcg1 N wl e) (N + 10) t).getD (99,t)
theorem lwg1 (K:Cont) (N wl:Nat) (e:Nat→Int) (t:(Int × Nat × Nat × (Nat→List PV) × Nat × (Nat→List PV))) (hg:zHX N N wl e t=true):LFX (N + 10) (cxS Tf (org0 N wl e) (N + 10) 11 (ntmF Tf 11)) (evX Tf (org0 N wl e) (N + 10) 11 (ntmF Tf 11)) (qY [([0,1,0,0,1,0,0,1,0,1,1,1,1,1],sumF (fun t:(Int × Int × Nat × Nat × (Nat→List PV) × Nat × (Nat→List PV))=>(hg2 N wl e t.1 t.2.1 t.2.2.1 t.2.2.2.1 t.2.2.2.2.1 t.2.2.2.2.2.1 t.2.2.2.2.2.2)) (fun σ=>(slI σ 7,slI σ 8,(bkC σ 11 1).toNat,rgN σ 25,rgF σ 25,rgN σ 59,rgF σ 59)) (fun t K=>(bif qJD N wl e t then kxg2 N wl e K (qQA N wl e t) else none)))]) (qQ Tf 11 [0,1,0,1,1,1,1,1]) [0,1,0,1,1,1,1,1] (Tf.hint 11 (qJ (qQ Tf 11 [0,1,0,1,1,1,1,1]))) K (N + 10) (hg1 N wl e t.1 t.2.1 t.2.2.1 t.2.2.2.1 t.2.2.2.2.1 t.2.2.2.2.2)=kxg1 N wl e K (qGB N N wl e t):=by
 refine (wlg1 K N wl e (N + 10) t).trans ?_;unfold zHX at hg;unfold qGB;cases h:qW (dcg1 N wl e) (N + 10) t with
 | none=>rw [h] at hg; cases hg
 | some y=>rfl
def zP:Nat→List PV:=fun _=>[.zs]
def zE:Nat→List PV:=fun _=>[.n .i64 0,.n .i64 0,.n .i64 0,.n .i64 0,.n .i64 0,.zs,.n .i64 0,.n .i64 0,.zs,.n .i64 0,.zs,.zs]
theorem jHE (x:Int):0≤gsF x∧gsF x≤3:=by
 unfold gsF;cases decide (x=0) <;> cases decide (x - 1=0) <;> cases decide (x - 1 - 1=0) <;> cases decide (x - 1 - 1 - 1=0) <;> cases decide (x - 1 - 1 - 1 - 1=0) <;> cases decide (x - 1 - 1 - 1 - 1 - 1=0) <;> cases decide (x - 1 - 1 - 1 - 1 - 1 - 1=0) <;> simp only [vYQ,vYZ] <;> omega
def pusR (f:Nat→List PV) (rn:Nat) (c:List PV):Nat→List PV:=fun v=>kU (Nat.beq v rn) c (f v)
theorem jKG (f:Nat→List PV) (rn:Nat) (c:List PV):pusR f rn c rn=c:=by
 unfold pusR; rw [Nat.beq_refl,qXZ]
theorem jQJ {f:Nat→List PV} {rn v:Nat} {c:List PV} (h:v ≠ rn):pusR f rn c v=f v:=by
 have hb:Nat.beq v rn=false:=by
  cases hb:Nat.beq v rn with
  | false=>rfl
  | true=>exact absurd (vQU hb) h
 unfold pusR;rw [hb,qXY]
def LX (a b c d:Int):Prop:=a < c ∨ (a=c∧b < d)
structure GI (n x y rn:Nat) (f:Nat→List PV) (ed:Nat→Ed):Prop where
 row:∀ v,v < rn→f v=edP (ed v)
 ok:∀ v,v < rn→0≤(ed v).u∧(ed v).u < (ed v).v∧(ed v).v < (n:Int)∧0≤(ed v).c∧(ed v).c≤6
 so:∀ v,v + 1 < rn→LX (ed v).u (ed v).v (ed (v + 1)).u (ed (v + 1)).v
 la:∀ v,v < rn→LX (ed v).u (ed v).v x y
def pusE (ed:Nat→Ed) (rn:Nat) (c:Ed):Nat→Ed:=fun v=>if v=rn then c else ed v
theorem GI.push {n x y rn:Nat} {f:Nat→List PV} {ed:Nat→Ed} (h:GI n x y rn f ed) {c:Ed} (hu:c.u=x) (hv:c.v=y) (_:x < y) (_:y < n) (_:0≤c.c∧c.c≤6):GI n x (y + 1) (rn + 1) (pusR f rn (edP c)) (pusE ed rn c) where
 row:=fun v hv=>by
  by_cases e:v=rn
  ·subst e; rw [jKG]; unfold pusE; rw [if_pos rfl]
  ·rw [jQJ e,h.row v (by omega)]; unfold pusE; rw [if_neg e]
 ok:=fun v hl=>by
  unfold pusE;by_cases e:v=rn
  ·rw [if_pos e]; omega
  ·rw [if_neg e]; exact h.ok v (by omega)
 so:=fun v hl=>by
  unfold pusE;rw [if_neg (show v ≠ rn by omega)];by_cases e:v + 1=rn
  ·rw [if_pos e,hu,hv]; exact h.la v (by omega)
  ·rw [if_neg e]; exact h.so v (by omega)
 la:=fun v hl=>by
  unfold pusE;by_cases e:v=rn
  ·rw [if_pos e]; unfold LX; omega
  ·rw [if_neg e]
   have:=h.la v (by omega)
   unfold LX at this ⊢; omega
theorem GI.skip {n x y rn:Nat} {f:Nat→List PV} {ed:Nat→Ed} (h:GI n x y rn f ed):GI n x (y + 1) rn f ed:=⟨h.row,h.ok,h.so,fun v hl=>by
 have:=h.la v hl
 unfold LX at this ⊢; omega⟩
theorem GI.next {n x rn:Nat} {f:Nat→List PV} {ed:Nat→Ed} (h:GI n x n rn f ed) (y:Nat):GI n (x + 1) y rn f ed:=⟨h.row,h.ok,h.so,fun v hl=>by
 have h1:=h.la v hl;have h2:=h.ok v hl;unfold LX at h1 ⊢; omega⟩
section
variable {wl:Nat} {e:Nat→Int} {n:Nat} (hn:vYX .i64 (2 + nxV e wl 0 8)=(n:Int)) (h9:n≤9)
include hn h9
theorem jXG:∀ (d x:Nat) (f:Nat→List PV) (M:Nat),x + d=n→d < M→∃ f',qW (dcg0 wl e) M ((x:Int),x,f)=some (0,(n:Int),n,f')
 | _,_,_,0,_,h=>by omega
 | 0,x,f,M + 1,hd,_=>by
  obtain rfl:x=n:=by omega
  refine ⟨f,?_⟩;rw [qW];dsimp only [dcg0];rw [hn,vYY (by omega)]; rfl
 | d + 1,x,f,M + 1,hd,hM=>by
  rw [qW];dsimp only [dcg0];rw [hn,vYJ (show (x:Int) < (n:Int) by omega),uJ (show x < 1000000 by omega),vYJ (show x + 1≤1000000 by omega)];exact jXG d (x + 1) _ M (by omega) (by omega)
end
section
variable {wl:Nat} {e:Nat→Int} (hw:wl≤9223372036854775807) {n:Nat} (hn:vYX .i64 (2 + nxV e wl 0 8)=(n:Int)) (h9:n≤9)
include hw hn h9
theorem jYK {x pn:Nat} {pf:Nat→List PV}:∀ (d y m2 rn:Nat) (f:Nat→List PV) (ed:Nat→Ed) (M:Nat),y + d=n→d < M→x < y→m2≤wl→rn≤9 * x + y→rn≤1000→GI n x y rn f ed→∃ m' rn' f' ed',qW (dcg2 wl e) M ((x:Int),(y:Int),m2,pn,pf,rn,f)=some (0,(x:Int),(n:Int),m',pn,pf,rn',f')∧m'≤wl∧rn'≤9 * x + n∧GI n x n rn' f' ed'
 | _,_,_,_,_,_,0,_,h,_,_,_,_,_=>by omega
 | 0,y,m2,rn,f,ed,M + 1,hd,_,hx,hm,hr,_,hI=>by
  obtain rfl:y=n:=by omega
  refine ⟨m2,rn,f,ed,?_,hm,hr,hI⟩;rw [qW];dsimp only [dcg2];rw [hn,vYY (by omega)]; rfl
 | d + 1,y,m2,rn,f,ed,M + 1,hd,hM,hx,hm,hr,hr1,hI=>by
  rw [qW];dsimp only [dcg2];rw [hn,vYJ (show (y:Int) < (n:Int) by omega),zKG (C:=cnx) (t:=(wl,m2,e,5)) ⟨hm,hw,by decide,by decide⟩,uJ (show y < 1000000 by omega),vYQ,vYQ];by_cases hc:nxV e wl m2 5 < 2
  ·have b8:=jZE (e:=e) (w:=wl) (m:=mA wl m2 2) (k:=8) (by decide);have b7:=jZE (e:=e) (w:=wl) (m:=mA wl m2 1) (k:=7) (by decide);have i8:inB (nxV e wl (mA wl m2 2) 8) 8=true:=by unfold inB; rw [vYJ b8.1,vYJ (by omega)]; rfl
   rw [vYJ hc,zKG (C:=cnx) (t:=(wl,mA wl m2 1,e,7)) ⟨yYZ hm 1,hw,by decide,by decide⟩,zKG (C:=cnx) (t:=(wl,mA wl m2 2,e,8)) ⟨yYZ hm 2,hw,by decide,by decide⟩,i8,jK (C:=ccl) (t:=gsF _) (jHE _),vYJ (show rn + 1≤1000000 by omega)];simp only [vYQ,Bool.and_true];have hp:=hI.push (c:=⟨x,y,nxV e wl (mA wl m2 1) 7,gsF (nxV e wl (mA wl m2 2) 8),clK (gsF (nxV e wl (mA wl m2 2) 8)),clD (gsF (nxV e wl (mA wl m2 2) 8)),0,0,clA (gsF (nxV e wl (mA wl m2 2) 8)),clF,0,clG,clB (gsF (nxV e wl (mA wl m2 2) 8)),clG,clB (gsF (nxV e wl (mA wl m2 2) 8)),clG⟩) rfl rfl hx (by omega) (by dsimp only; omega);exact jYK d (y + 1) (mA wl m2 3) (rn + 1) _ _ M (by omega) (by omega) (by omega) (yYZ hm 3) (by omega) (by omega) hp
  ·rw [vYY hc,vYZ];exact jYK d (y + 1) (mA wl m2 1) rn f ed M (by omega) (by omega) (by omega) (yYZ hm 1) (by omega) hr1 hI.skip
theorem jXV {N pn:Nat} {pf:Nat→List PV} (hN:10≤N):∀ (d x m2 rn:Nat) (f:Nat→List PV) (ed:Nat→Ed) (M:Nat),x + d=n→d < M→m2≤wl→rn≤9 * x→GI n x (x + 1) rn f ed→∃ m' rn' f' ed',qW (dcg1 N wl e) M ((x:Int),m2,pn,pf,rn,f)=some (0,(n:Int),m',pn,pf,rn',f')∧rn'≤9 * n∧GI n n (n + 1) rn' f' ed'
 | _,_,_,_,_,_,0,_,h,_,_,_=>by omega
 | 0,x,m2,rn,f,ed,M + 1,hd,_,hm,hr,hI=>by
  obtain rfl:x=n:=by omega
  refine ⟨m2,rn,f,ed,?_,hr,hI⟩;rw [qW];dsimp only [dcg1];rw [hn,vYY (by omega)]; rfl
 | d + 1,x,m2,rn,f,ed,M + 1,hd,hM,hm,hr,hI=>by
  obtain ⟨m',rn',f',ed',q1,q2,q3,q4⟩:=jYK hw hn h9 (x:=x) (pn:=pn) (pf:=pf) (n - (x + 1)) (x + 1) m2 rn f ed (N + 10) (by omega) (by omega) (by omega) hm (by omega) (by omega) hI;have o1:qJD N wl e ((x:Int),((x + 1:Nat):Int),m2,pn,pf,rn,f)=true:=by unfold qJD; rw [q1]; rfl
  have o2:qQA N wl e ((x:Int),((x + 1:Nat):Int),m2,pn,pf,rn,f)=(0,(x:Int),(n:Int),m',pn,pf,rn',f'):=by unfold qQA; rw [q1]; rfl
  rw [qW];dsimp only [dcg1];rw [hn,vYJ (show (x:Int) < (n:Int) by omega),yQ,uJ (show x < 1000000 by omega),o1,o2];simp only [vYQ,uJ (show x < 1000000 by omega)];exact jXV hN d (x + 1) m' rn' f' ed' M (by omega) (by omega) q2 (by omega) (q4.next (x + 1 + 1))
end
noncomputable def yWW (N wl:Nat) (e:Nat→Int):List (List Nat × yJ):=[([0,1,0,1,1,1,1],sumF (fun t:(Int × Nat × (Nat→List PV))=>(hg0 N wl e t.1 t.2.1 t.2.2)) (fun σ=>(slI σ 6,rgN σ 25,rgF σ 25)) (fun t K=>(bif zHW N wl e t then kxg0 N wl e K (qZH N wl e t) else none))),([0,1,0,1,1,1,1,1],sumF (fun t:(Int × Nat × Nat × (Nat→List PV) × Nat × (Nat→List PV))=>(hg1 N wl e t.1 t.2.1 t.2.2.1 t.2.2.2.1 t.2.2.2.2.1 t.2.2.2.2.2)) (fun σ=>(slI σ 7,(bkC σ 11 1).toNat,rgN σ 25,rgF σ 25,rgN σ 59,rgF σ 59)) (fun t K=>(bif zHX N N wl e t then kxg1 N wl e K (qGB N N wl e t) else none)))]
set_option maxRecDepth 100000 in
theorem jVB (N wl:Nat) (e:Nat→Int):qQU Tf (org0 N wl e) (qY (yWW N wl e)) (N + 10) 11 [.lf wl (fQ e)] =
 (bif (gB1 cnx hnx enx (wl,0,e,8)) then (bif (gSt (hg0 N wl e 0 0 zP) (hg0 N wl e 0 0 zP)) then (bif (zHW N wl e (0,0,zP)) then (bif (Nat.beq (qZH N wl e (0,0,zP)).1 0) then (bif (gSt (hg1 N wl e 0 (mA wl 0 1) (qZH N wl e (0,0,zP)).2.2.1 (qZH N wl e (0,0,zP)).2.2.2 0 zE) (hg1 N wl e 0 (mA wl 0 1) (qZH N wl e (0,0,zP)).2.2.1 (qZH N wl e (0,0,zP)).2.2.2 0 zE)) then (bif (zHX N N wl e (0,(mA wl 0 1),(qZH N wl e (0,0,zP)).2.2.1,(qZH N wl e (0,0,zP)).2.2.2,0,zE)) then (bif (Nat.beq (qGB N N wl e (0,(mA wl 0 1),(qZH N wl e (0,0,zP)).2.2.1,(qZH N wl e (0,0,zP)).2.2.2,0,zE)).1 0) then some (.v (.a [.lf (qGB N N wl e (0,(mA wl 0 1),(qZH N wl e (0,0,zP)).2.2.1,(qZH N wl e (0,0,zP)).2.2.2,0,zE)).2.2.2.1 (qGB N N wl e (0,(mA wl 0 1),(qZH N wl e (0,0,zP)).2.2.1,(qZH N wl e (0,0,zP)).2.2.2,0,zE)).2.2.2.2.1,.lf (qGB N N wl e (0,(mA wl 0 1),(qZH N wl e (0,0,zP)).2.2.1,(qZH N wl e (0,0,zP)).2.2.2,0,zE)).2.2.2.2.2.1 (qGB N N wl e (0,(mA wl 0 1),(qZH N wl e (0,0,zP)).2.2.1,(qZH N wl e (0,0,zP)).2.2.2,0,zE)).2.2.2.2.2.2]),[])
 else none)
 else none)
 else none)
 else none)
 else none)
 else none)
 else none):=by kernel_rfl
theorem yHA (N wl:Nat) (e:Nat→Int) {n m3 en:Nat} {pf ef:Nat→List PV} (hw:wl≤9223372036854775807) (h0:qW (dcg0 wl e) (N + 10) (0,0,zP)=some (0,(n:Int),n,pf)) (h1:qW (dcg1 N wl e) (N + 10) (0,mA wl 0 1,n,pf,0,zE)=some (0,(n:Int),m3,n,pf,en,ef)):yZ Try.prog 11 [.lf wl (fQ e)] (.v (.a [.lf n pf,.lf en ef])):=by
 refine qG (N:=(N + 10)) (LO:=qY (yWW N wl e)) yW yU (yV (l:=[(31,o_cl)]) (m:=[(30,o_nx)]) ⟨jHZ,trivial⟩ ⟨jGH,trivial⟩) (fun p S hp => ?_) ?_
 ·refine qX (L:=qQ Tf 11) (l:=(yWW N wl e)) (show AllP _ (yWW N wl e) from ⟨?_,?_,trivial⟩) p S hp
  ·dsimp only;refine yY (T:=Tf) (o:=(org0 N wl e)) (f:=11) (LO:=qY []) (p:=[0,1,0,1,1,1,1]) yG ?_;intro t K r hr;obtain ⟨hg,hr⟩:=qZ hr
   skip
   exact (lwg0 K N wl e t hg).trans hr
  ·dsimp only;refine yY (T:=Tf) (o:=(org0 N wl e)) (f:=11) (LO:=(qY [([0,1,0,0,1,0,0,1,0,1,1,1,1,1],sumF (fun t:(Int × Int × Nat × Nat × (Nat→List PV) × Nat × (Nat→List PV))=>(hg2 N wl e t.1 t.2.1 t.2.2.1 t.2.2.2.1 t.2.2.2.2.1 t.2.2.2.2.2.1 t.2.2.2.2.2.2)) (fun σ=>(slI σ 7,slI σ 8,(bkC σ 11 1).toNat,rgN σ 25,rgF σ 25,rgN σ 59,rgF σ 59)) (fun t K=>(bif qJD N wl e t then kxg2 N wl e K (qQA N wl e t) else none)))])) (p:=[0,1,0,1,1,1,1,1]) (okg2 N wl e) ?_;intro t K r hr;obtain ⟨hg,hr⟩:=qZ hr
   skip
   exact (lwg1 K N wl e t hg).trans hr
 ·refine (jVB N wl e).trans ?_;have o1:zHW N wl e (0,0,zP)=true:=by unfold zHW; rw [h0]; rfl
  have o2:qZH N wl e (0,0,zP)=(0,(n:Int),n,pf):=by unfold qZH; rw [h0]; rfl
  have o3:zHX N N wl e (0,mA wl 0 1,n,pf,0,zE)=true:=by unfold zHX; rw [h1]; rfl
  have o4:qGB N N wl e (0,mA wl 0 1,n,pf,0,zE)=(0,(n:Int),m3,n,pf,en,ef):=by unfold qGB; rw [h1]; rfl
  rw [zKG (C:=cnx) (t:=(wl,0,e,8)) ⟨Nat.zero_le _,hw,by decide,by decide⟩,yQ,o1,o2];simp only [vYQ];rw [yQ,o3,o4];rfl
def jWI (g:Gr):Prop:=wfB g=true∧2≤g.np∧g.np≤9∧g.ne≤81∧∀ i,i < g.ne→0≤(g.ed i).c∧(g.ed i).c≤6
theorem jHF (wl:Nat) (e:Nat→Int) (hw:wl≤9223372036854775807):∃ g:Gr,yZ Try.prog 11 [.lf wl (fQ e)] (.v (.a (gP g)))∧jWI g:=by
 have b:=jZE (e:=e) (w:=wl) (m:=0) (k:=8) (by decide);obtain ⟨n,hn,h2,h9⟩:∃ n:Nat,vYX .i64 (2 + nxV e wl 0 8)=(n:Int)∧2≤n∧n≤9:=⟨(2 + nxV e wl 0 8).toNat,by rw [jJ (by omega)]; omega,by omega,by omega⟩
 obtain ⟨pf,h0⟩:=jXG hn h9 n 0 zP 30 (by omega) (by omega);obtain ⟨m3,en,ef,ed,h1,hr,hI⟩:=jXV hw hn h9 (N:=20) (pn:=n) (pf:=pf) (by decide) n 0 (mA wl 0 1) 0 zE (fun _=>unE []) 30 (by omega) (by omega) (yYZ (Nat.zero_le _) 1) (by omega) ⟨fun v h=>absurd h (Nat.not_lt_zero v),fun v h=>absurd h (Nat.not_lt_zero v),fun v h=>absurd h (Nat.not_lt_zero _),fun v h=>absurd h (Nat.not_lt_zero v)⟩;have hs:=yHA 20 wl e hw h0 h1;refine ⟨⟨n,pf,en,ed⟩,qZC (Same.a (xs:=[_,_]) (ys:=[_,_]) ⟨Same.refl _,fun F w v h=>zQU (rows:=(List.range en).map (fE ed)) rfl (zQX (List.map_congr_left fun v hv=>by rw [hI.row v (List.mem_range.1 hv)]; rfl) h),trivial⟩) hs,?_,h2,h9,by show en≤81; omega,fun i hi=>⟨(hI.ok i hi).2.2.2.1,(hI.ok i hi).2.2.2.2⟩⟩;unfold wfB;rw [vYJ (show n≤1024 by omega),vYJ (show en≤8192 by omega),vZW,vZW];refine allN_iff.2 fun i _ hi => ?_
 have hi:i < en:=by have:i < 0 + en:=hi; omega
 have h3:=hI.ok i hi;show okE ⟨n,pf,en,ed⟩ i=true;unfold okE isP cpI;simp only [vQJ,Bool.or_eq_true,Bool.not_eq_true',decide_eq_true_eq,decide_eq_false_iff_not];refine ⟨by omega,by omega,by omega,by omega,by omega,?_⟩;by_cases h4:i=0
 ·exact .inl h4
 ·have h5:=hI.so (i - 1) (by omega);rw [show i - 1 + 1=i by omega] at h5;refine .inr ?_;unfold LX at h5;rcases h5 with h5 | ⟨h5,h6⟩
  ·rw [vYJ h5,vYQ]; omega
  ·rw [vYY (show ¬ (ed (i - 1)).u < (ed i).u by omega),vYY (show ¬ (ed i).u < (ed (i - 1)).u by omega),vYJ h6,vYZ,vYZ,vYQ]; omega
end Go.Proofs.Ytglkkhpdbfacfaa.Cc
namespace Go.Proofs.Ytglkkhpdbfacfaa.Cd
open Go.Rx Rt Go.Sx Go.RowKit Ba Bb Bc Bd Be Bf Bi Bj Bk Bl Bh Bm Bn Bo Bp Bq Br Bs Bt Bu Bv Bw Bx By Bz Ca Cb Cc
noncomputable def orsm (n m:Nat) (_ _:Nat→Int):OrS:=orS [] []
noncomputable def hsm (n m:Nat) (qa qb:Nat→Int) (i:Int):St:=⟨[(0,.v (.lf n (fQ qa))),(1,.v (.lf m (fQ qb))),(5,.v (.n .i64 i))],[]⟩
set_option maxRecDepth 100000 in
theorem rdsm (G:St→Option (Ret × Mem)) (K:Cont) (n m:Nat) (qa qb:Nat→Int) (i:Int):zH (n + 10) (cxS Tf (orsm n m qa qb) (n + 10) 28 (ntmF Tf 28)) (evX Tf (orsm n m qa qb) (n + 10) 28 (ntmF Tf 28)) (qY []) (qQ Tf 28 [0,1,0,1,1]) [0,1,0,1,1] (Tf.hint 28 (qJ (qQ Tf 28 [0,1,0,1,1]))) K G (hsm n m qa qb i) =
 (bif (decide (i < (n:Int))) then (bif (inB i n) then (bif (inB i m) then (bif (!decide ((qa (i).toNat)=(qb (i).toNat))) then (K .ret ⟨[(4,.v (.b false))],[]⟩)
 else (G (hsm n m qa qb (vYX .i64 (i + 1)))))
 else none)
 else none)
 else (K (.exit 0) ⟨[],[]⟩)):=by kernel_rfl
theorem lpsm (K:Cont) (n m:Nat) (qa qb:Nat→Int) (_:n≤1000) (_:n=m):LFX (n + 10) (cxS Tf (orsm n m qa qb) (n + 10) 28 (ntmF Tf 28)) (evX Tf (orsm n m qa qb) (n + 10) 28 (ntmF Tf 28)) (qY []) (qQ Tf 28 [0,1,0,1,1]) [0,1,0,1,1] (Tf.hint 28 (qJ (qQ Tf 28 [0,1,0,1,1]))) K (n + 10) (hsm n m qa qb 0)=bif (allN (fun i:Nat=>decide (qa i=qb i)) n 0) then (K (.exit 0) ⟨[],[]⟩) else (K .ret ⟨[(4,.v (.b false))],[]⟩):=by
 refine (qJW (L:=LFX (n + 10) (cxS Tf (orsm n m qa qb) (n + 10) 28 (ntmF Tf 28)) (evX Tf (orsm n m qa qb) (n + 10) 28 (ntmF Tf 28)) (qY []) (qQ Tf 28 [0,1,0,1,1]) [0,1,0,1,1] (Tf.hint 28 (qJ (qQ Tf 28 [0,1,0,1,1]))) K) (stp:=zH (n + 10) (cxS Tf (orsm n m qa qb) (n + 10) 28 (ntmF Tf 28)) (evX Tf (orsm n m qa qb) (n + 10) 28 (ntmF Tf 28)) (qY []) (qQ Tf 28 [0,1,0,1,1]) [0,1,0,1,1] (Tf.hint 28 (qJ (qQ Tf 28 [0,1,0,1,1]))) K) (fun _ _=>rfl) (fun (i:Nat) (_:Unit)=>hsm n m qa qb (i:Int)) (fun _ _=>True) (fun (i:Nat) _=>decide (qa i=qb i)) (fun _ _=>()) (c:=n) (fun _=>(K (.exit 0) ⟨[],[]⟩)) (fun i _=>(K .ret ⟨[(4,.v (.b false))],[]⟩)) (fun G i f hi _ => ?_) (fun _ _ _ _ _=>trivial) (fun G f _ => ?_) n 0 (n + 10) () (by omega) (by omega) trivial).trans ((uK _ _ _ _ _).trans (kH _ _ _ _ _))
 ·refine (rdsm G K n m qa qb i).trans ?_;rw [vYJ (show (i:Int) < (n:Int) by omega),uJ (by omega),zU (show i < n by omega),zU (show i < m by omega)];simp only [toN,vYQ];cases decide (qa i=qb i) <;> rfl
 ·refine (rdsm G K n m qa qb n).trans ?_;rw [vYY (show ¬ (n:Int) < (n:Int) by omega)];rfl
def smB (n m:Nat) (qa qb:Nat→Int):Bool:=decide ((n:Int)=(m:Int)) && allN (fun i:Nat=>decide (qa i=qb i)) n 0
noncomputable def lssm (n m:Nat) (qa qb:Nat→Int):List (List Nat × yJ):=[([0,1,0,1,1],sumF (fun _:Unit=>(hsm n m qa qb 0)) (fun _=>()) (fun _ K=>(bif (decide (n≤1000) && decide (n=m)) then (bif (allN (fun i:Nat=>decide (qa i=qb i)) n 0) then (K (.exit 0) ⟨[],[]⟩) else (K .ret ⟨[(4,.v (.b false))],[]⟩)) else none)))]
set_option maxRecDepth 100000 in
theorem pxsm (n m:Nat) (qa qb:Nat→Int):qQU Tf (orsm n m qa qb) (qY (lssm n m qa qb)) (n + 10) 28 [.lf n (fQ qa),.lf m (fQ qb)] =
 (bif (!decide ((n:Int)=(m:Int))) then some (.v (.b false),[])
 else (bif (gSt (hsm n m qa qb 0) (hsm n m qa qb 0)) then (bif (decide (n≤1000) && decide (n=m)) then (bif (allN (fun i:Nat=>decide (qa i=qb i)) n 0) then some (.v (.b true),[])
 else some (.v (.b false),[]))
 else none)
 else none)):=by kernel_rfl
theorem jJZ (n m:Nat) (qa qb:Nat→Int) (hn:n≤1000):yZ Try.prog 28 [.lf n (fQ qa),.lf m (fQ qb)] (.v (.b (smB n m qa qb))):=by
 refine qG (N:=(n + 10)) (LO:=qY (lssm n m qa qb)) yW yU (yV (l:=[]) (m:=[]) trivial trivial) (fun p S hp => ?_) ?_
 ·refine qX (L:=qQ Tf 28) (l:=(lssm n m qa qb)) (show AllP _ (lssm n m qa qb) from ⟨?_,trivial⟩) p S hp
  ·dsimp only;refine yY (T:=Tf) (o:=(orsm n m qa qb)) (f:=28) (LO:=qY []) (p:=[0,1,0,1,1]) yG ?_;intro t K r hr;obtain ⟨hg,hr⟩:=qZ hr;have hh:=hg;simp only [vQJ,decide_eq_true_eq] at hh;obtain ⟨hn,hm⟩:=hh;exact (lpsm K n m qa qb hn hm).trans hr
 ·refine (pxsm n m qa qb).trans ?_;unfold smB;by_cases h:(n:Int)=(m:Int)
  ·obtain rfl:n=m:=by omega
   simp only [decide_true,vYJ hn,yQ,Bool.not_true,vYQ,vYZ,vZW];cases allN (fun i:Nat=>decide (qa i=qb i)) n 0 <;> rfl
  ·rw [vYY h]; rfl
def csm:Nat × Nat × (Nat→Int) × (Nat→Int)→Prop:=fun t=>match t with | (n,_,_,_)=>n≤1000
def esm:Nat × Nat × (Nat→Int) × (Nat→Int)→List PV:=fun t=>match t with | (n,m,qa,qb)=>[.lf n (fQ qa),.lf m (fQ qb)]
noncomputable def rsm:Nat × Nat × (Nat→Int) × (Nat→Int)→Ret:=fun t=>match t with | (n,m,qa,qb)=>.v (.b (smB n m qa qb))
def dsm:List PV→Nat × Nat × (Nat→Int) × (Nat→Int):=fun ps=>match ps with
 | [.lf n f,.lf m g]=>(n,m,unFQ f,unFQ g)
 | _=>(0,0,fun _=>0,fun _=>0)
noncomputable def o_sm:List PV→Option (Bool × Ret):=o_fm dsm csm esm rsm
theorem jGJ:uV Try.prog 28 o_sm:=qQB fun t h=>by
 obtain ⟨n,m,qa,qb⟩:=t;exact jJZ n m qa qb h
theorem yUJ (n:Nat) (q:Nat→Int):smB n n q q=true:=by
 unfold smB;rw [vYJ rfl,vZW];exact allN_iff.2 fun j _ _=>vYJ rfl
noncomputable def oren (g:Gr) (a b:Int):OrS:=orS [(14,o_rn)] []
noncomputable def lsen (g:Gr) (a b:Int):List (List Nat × yJ):=[]
set_option maxRecDepth 100000 in
theorem pxen (g:Gr) (a b:Int):qQU Tf (oren g a b) (qY (lsen g a b)) 60 12 [.a (gP g),.n .i64 a,.n .i64 b] =
 (bif (gF1 crn ern (a,(g.np:Int))) then (bif (gF1 crn ern (b,(g.np:Int))) then some (.v (.t [.n .i64 (a % (g.np:Int)),.n .i64 (b % (g.np:Int))]),[])
 else none)
 else none):=by kernel_rfl
theorem jJF (g:Gr) (a b:Int) (_:0 < g.np) (hp:g.np≤100):yZ Try.prog 12 [.a (gP g),.n .i64 a,.n .i64 b] (.v (.t [.n .i64 (a % (g.np:Int)),.n .i64 (b % (g.np:Int))])):=by
 refine qG (N:=60) (LO:=qY (lsen g a b)) yW yU (yV (l:=[(14,o_rn)]) (m:=[]) ⟨jZU,trivial⟩ trivial) (fun p S hp => ?_) ?_
 ·refine qX (L:=qQ Tf 12) (l:=(lsen g a b)) (show AllP _ (lsen g a b) from trivial) p S hp
 ·refine (pxen g a b).trans ?_;have hk:0 < (g.np:Int)∧(g.np:Int)≤9223372036854775807:=by omega
  simp only [jK (C:=crn) (t:=(a,(g.np:Int))) hk,jK (C:=crn) (t:=(b,(g.np:Int))) hk,vYQ]
  try rfl
def cen:Gr × Int × Int→Prop:=fun t=>match t with | (g,_,_)=>0 < g.np∧g.np≤100
def een:Gr × Int × Int→List PV:=fun t=>match t with | (g,a,b)=>[.a (gP g),.n .i64 a,.n .i64 b]
noncomputable def ren:Gr × Int × Int→Ret:=fun t=>match t with | (g,a,b)=>.v (.t [.n .i64 (a % (g.np:Int)),.n .i64 (b % (g.np:Int))])
def den:List PV→Gr × Int × Int:=fun ps=>match ps with
 | [.a [.lf np pt,.lf ne ed],.n _ a,.n _ b]=>(⟨np,pt,ne,unFE ed⟩,a,b)
 | _=>(⟨0,fun _=>[],0,fun _=>unE []⟩,0,0)
noncomputable def o_en:List PV→Option (Bool × Ret):=o_fm den cen een ren
theorem jGI:uV Try.prog 12 o_en:=qQB fun t h=>by
 obtain ⟨g,a,b⟩:=t;exact jJF g a b h.1 h.2
noncomputable def ptN (g:Gr) (a b:Int):Nat:=bif stF g a b 2 then g.np else 0
noncomputable def ptC (g:Gr) (a b:Int):Int:=bif stF g a b 2 then stC g a b 2 else 0
def cpt:Gr × Int × Int→Prop:=fun t=>match t with | (g,_,_)=>g.np≤100∧g.ne≤500
def ept:Gr × Int × Int→List PV:=fun t=>match t with | (g,a,b)=>[.a (gP g),.n .i64 a,.n .i64 b]
noncomputable def rpt:Gr × Int × Int→Ret:=fun t=>match t with | (g,a,b)=>.v (.t [.lf (ptN g a b) (fQ (ptV g a b)),.n .i64 (ptC g a b),.b (stF g a b 2)])
def dpt:List PV→Gr × Int × Int:=fun ps=>match ps with
 | [.a [.lf np pt,.lf ne ed],.n _ a,.n _ b]=>(⟨np,pt,ne,unFE ed⟩,a,b)
 | _=>(⟨0,fun _=>[],0,fun _=>unE []⟩,0,0)
noncomputable def o_pt:List PV→Option (Bool × Ret):=o_fm dpt cpt ept rpt
theorem jGW:uV Try.prog 18 o_pt:=qQB fun t h=>by
 obtain ⟨g,a,b⟩:=t;exact jJU g a b h.1 h.2
def crp:Gr × Int × Int→Prop:=fun t=>match t with | (g,_,_)=>g.np≤100∧g.ne≤500
def erp:Gr × Int × Int→List PV:=fun t=>match t with | (g,a,b)=>[.a (gP g),.n .i64 a,.n .i64 b]
noncomputable def rrp:Gr × Int × Int→Ret:=fun t=>match t with | (g,a,b)=>.v (.t [.lf (ptN g a b) (fQ (ptV g a b)),.n .i64 (ptC g a b),.b (stF g a b 2)])
def drp:List PV→Gr × Int × Int:=fun ps=>match ps with
 | [.a [.lf np pt,.lf ne ed],.n _ a,.n _ b]=>(⟨np,pt,ne,unFE ed⟩,a,b)
 | _=>(⟨0,fun _=>[],0,fun _=>unE []⟩,0,0)
noncomputable def o_rp:List PV→Option (Bool × Ret):=o_fm drp crp erp rrp
theorem jKE:uV Try.prog 13 o_rp:=qQB fun t h=>by
 obtain ⟨g,a,b⟩:=t;exact jJJ g a b h.1 h.2
def cck:Gr × Int × Int × Int × Nat × (Nat→Int)→Prop:=fun t=>match t with | (g,_,_,_,_,_)=>g.np≤100∧g.ne≤500
def eck:Gr × Int × Int × Int × Nat × (Nat→Int)→List PV:=fun t=>match t with | (g,a,b,low,n,q)=>[.a (gP g),.n .i64 a,.n .i64 b,.n .i64 low,.lf n (fQ q)]
noncomputable def rck:Gr × Int × Int × Int × Nat × (Nat→Int)→Ret:=fun t=>match t with | (g,a,b,low,n,q)=>.v (.b (cbB g a b low n q))
def dck:List PV→Gr × Int × Int × Int × Nat × (Nat→Int):=fun ps=>match ps with
 | [.a [.lf np pt,.lf ne ed],.n _ a,.n _ b,.n _ l,.lf n f]=>(⟨np,pt,ne,unFE ed⟩,a,b,l,n,unFQ f)
 | _=>(⟨0,fun _=>[],0,fun _=>unE []⟩,0,0,0,0,fun _=>0)
noncomputable def o_ck:List PV→Option (Bool × Ret):=o_fm dck cck eck rck
theorem jHY:uV Try.prog 19 o_ck:=qQB fun t h=>by
 obtain ⟨g,a,b,low,n,q⟩:=t;exact jKZ g a b low n q h.1 h.2
def ccb:Gr × Int × Int × Int × Nat × (Nat→Int)→Prop:=fun t=>match t with | (g,_,_,_,_,_)=>g.np≤100∧g.ne≤500
def ecb:Gr × Int × Int × Int × Nat × (Nat→Int)→List PV:=fun t=>match t with | (g,a,b,low,n,q)=>[.a (gP g),.n .i64 a,.n .i64 b,.n .i64 low,.lf n (fQ q)]
noncomputable def rcb:Gr × Int × Int × Int × Nat × (Nat→Int)→Ret:=fun t=>match t with | (g,a,b,low,n,q)=>.v (.b (cbB g a b low n q))
def dcb:List PV→Gr × Int × Int × Int × Nat × (Nat→Int):=fun ps=>match ps with
 | [.a [.lf np pt,.lf ne ed],.n _ a,.n _ b,.n _ l,.lf n f]=>(⟨np,pt,ne,unFE ed⟩,a,b,l,n,unFQ f)
 | _=>(⟨0,fun _=>[],0,fun _=>unE []⟩,0,0,0,0,fun _=>0)
noncomputable def o_cb:List PV→Option (Bool × Ret):=o_fm dcb ccb ecb rcb
theorem jHJ:uV Try.prog 34 o_cb:=qQB fun t h=>by
 obtain ⟨g,a,b,low,n,q⟩:=t;exact jKY g a b low n q h.1 h.2
noncomputable def jVI (g:Gr) (a b:Int):OrS:=orS [(18,o_pt),(13,o_rp),(28,o_sm)] []
noncomputable def yWK (g:Gr) (a b:Int):List (List Nat × yJ):=[]
set_option maxRecDepth 100000 in
theorem jVG (g:Gr) (a b:Int):qQU Tf (jVI g a b) (qY (yWK g a b)) 60 15 [.a (gP g),.n .i64 a,.n .i64 b] =
 (bif (gF1 cpt ept (g,a,b)) then (bif (stF g a b 2) then (bif (gF1 crp erp (g,a,b)) then (bif (stF g a b 2) then (bif (decide ((ptC g a b)=(ptC g a b))) then (bif (gF1 csm esm ((ptN g a b),(ptN g a b),(ptV g a b),(ptV g a b))) then (bif (smB (ptN g a b) (ptN g a b) (ptV g a b) (ptV g a b)) then some (.v (.b true),[])
 else some (.v (.b false),[]))
 else none)
 else some (.v (.b false),[]))
 else some (.v (.b false),[]))
 else none)
 else (bif (gF1 crp erp (g,a,b)) then (bif (stF g a b 2) then some (.v (.b false),[])
 else (bif (decide ((ptC g a b)=(ptC g a b))) then (bif (gF1 csm esm ((ptN g a b),(ptN g a b),(ptV g a b),(ptV g a b))) then (bif (smB (ptN g a b) (ptN g a b) (ptV g a b) (ptV g a b)) then some (.v (.b true),[])
 else some (.v (.b false),[]))
 else none)
 else some (.v (.b false),[])))
 else none))
 else none):=by kernel_rfl
theorem yHV (g:Gr) (a b:Int) (hp:g.np≤100) (hn:g.ne≤500):yZ Try.prog 15 [.a (gP g),.n .i64 a,.n .i64 b] (.v (.b true)):=by
 refine qG (N:=60) (LO:=qY (yWK g a b)) yW yU (yV (l:=[(18,o_pt),(13,o_rp),(28,o_sm)]) (m:=[]) ⟨jGW,jKE,jGJ,trivial⟩ trivial) (fun p S hp => ?_) ?_
 ·refine qX (L:=qQ Tf 15) (l:=(yWK g a b)) (show AllP _ (yWK g a b) from trivial) p S hp
 ·refine (jVG g a b).trans ?_;simp only [jK (C:=cpt) (t:=(g,a,b)) ⟨hp,hn⟩,jK (C:=crp) (t:=(g,a,b)) ⟨hp,hn⟩,decide_true,vYQ];have hl:ptN g a b≤1000:=by
   unfold ptN;cases stF g a b 2
   ·exact Nat.zero_le _
   ·show g.np≤1000; omega
  simp only [jK (C:=csm) (t:=(ptN g a b,ptN g a b,ptV g a b,ptV g a b)) hl,yUJ,eq_self,decide_true,vYQ];cases stF g a b 2 <;> rfl
noncomputable def jGQ (g:Gr) (a b _:Int) (n:Nat) (_:Nat→Int):OrS:=orS [(19,o_ck),(34,o_cb)] []
noncomputable def yWV (g:Gr) (a b _:Int) (n:Nat) (_:Nat→Int):List (List Nat × yJ):=[]
set_option maxRecDepth 100000 in
theorem jVC (g:Gr) (a b low:Int) (n:Nat) (q:Nat→Int):qQU Tf (jGQ g a b low n q) (qY (yWV g a b low n q)) 60 16 [.a (gP g),.n .i64 a,.n .i64 b,.n .i64 low,.lf n (fQ q)] =
 (bif (gF1 cck eck (g,a,b,low,n,q)) then (bif (cbB g a b low n q) then (bif (gF1 ccb ecb (g,a,b,low,n,q)) then (bif (cbB g a b low n q) then some (.v (.b true),[])
 else some (.v (.b false),[]))
 else none)
 else (bif (gF1 ccb ecb (g,a,b,low,n,q)) then (bif (cbB g a b low n q) then some (.v (.b false),[])
 else some (.v (.b true),[]))
 else none))
 else none):=by kernel_rfl
theorem yHB (g:Gr) (a b low:Int) (n:Nat) (q:Nat→Int) (hp:g.np≤100) (hn:g.ne≤500):yZ Try.prog 16 [.a (gP g),.n .i64 a,.n .i64 b,.n .i64 low,.lf n (fQ q)] (.v (.b true)):=by
 refine qG (N:=60) (LO:=qY (yWV g a b low n q)) yW yU (yV (l:=[(19,o_ck),(34,o_cb)]) (m:=[]) ⟨jHY,jHJ,trivial⟩ trivial) (fun p S hp => ?_) ?_
 ·refine qX (L:=qQ Tf 16) (l:=(yWV g a b low n q)) (show AllP _ (yWV g a b low n q) from trivial) p S hp
 ·refine (jVC g a b low n q).trans ?_;simp only [jK (C:=cck) (t:=(g,a,b,low,n,q)) ⟨hp,hn⟩,jK (C:=ccb) (t:=(g,a,b,low,n,q)) ⟨hp,hn⟩,vYQ];cases cbB g a b low n q <;> rfl
end Go.Proofs.Ytglkkhpdbfacfaa.Cd
namespace Go.Proofs.Ytglkkhpdbfacfaa.Ce
open Go.Rx Rt Go.Sx Go.RowKit Ba Bb Bc Bd Be Bf Bi Bj Bk Bl Bh Bm Bn Bo Bp Bq Br Bs Bt Bu Bv Bw Bx By Bz Ca Cb Cc Cd
def cpts:Gr × Int × Int→Prop:=fun t=>match t with | (g,_,_)=>g.np≤100∧g.ne≤500
def epts:Gr × Int × Int→List PV:=fun t=>match t with | (g,a,b)=>[.a (gP g),.n .i64 a,.n .i64 b]
noncomputable def rpts:Gr × Int × Int→Ret:=fun t=>match t with | (_,_,b)=>.v (.b true)
def dpts:List PV→Gr × Int × Int:=fun ps=>match ps with
 | [.a [.lf np pt,.lf ne ed],.n _ a,.n _ b]=>(⟨np,pt,ne,unFE ed⟩,a,b)
 | _=>(⟨0,fun _=>[],0,fun _=>unE []⟩,0,0)
noncomputable def jZC:List PV→Option (Bool × Ret):=o_fm dpts cpts epts rpts
theorem jKF:uV Try.prog 15 jZC:=qQB fun t h=>by
 obtain ⟨g,a,b⟩:=t;exact yHV g a b h.1 h.2
def cchs:Gr × Int × Int × Int × Nat × (Nat→Int)→Prop:=fun t=>match t with | (g,_,_,_,_,_)=>g.np≤100∧g.ne≤500
def echs:Gr × Int × Int × Int × Nat × (Nat→Int)→List PV:=fun t=>match t with | (g,a,b,low,n,q)=>[.a (gP g),.n .i64 a,.n .i64 b,.n .i64 low,.lf n (fQ q)]
noncomputable def rchs:Gr × Int × Int × Int × Nat × (Nat→Int)→Ret:=fun t=>match t with | (_,_,b,_,_,_)=>.v (.b true)
def dchs:List PV→Gr × Int × Int × Int × Nat × (Nat→Int):=fun ps=>match ps with
 | [.a [.lf np pt,.lf ne ed],.n _ a,.n _ b,.n _ l,.lf n f]=>(⟨np,pt,ne,unFE ed⟩,a,b,l,n,unFQ f)
 | _=>(⟨0,fun _=>[],0,fun _=>unE []⟩,0,0,0,0,fun _=>0)
noncomputable def jZD:List PV→Option (Bool × Ret):=o_fm dchs cchs echs rchs
theorem jUC:uV Try.prog 16 jZD:=qQB fun t h=>by
 obtain ⟨g,a,b,low,n,q⟩:=t;exact yHB g a b low n q h.1 h.2
noncomputable def jVL (g g2:Gr) (a b _:Int) (n:Nat) (_:Nat→Int) (wl:Nat) (e:Nat→Int) (x y:Int):OrS:=orS [(10,o_cr [] (.v (.b true))),(11,o_cr [.lf wl (fQ e)] (.v (.a (gP g2)))),(12,o_en),(13,o_rp),(14,o_rn),(15,jZC),(16,jZD)] []
noncomputable def yWX (g _:Gr) (a b _:Int) (n:Nat) (_:Nat→Int) (_:Nat) (e:Nat→Int) (x y:Int):List (List Nat × yJ):=[]
set_option maxRecDepth 100000 in
theorem jVA (g g2:Gr) (a b low:Int) (n:Nat) (q:Nat→Int) (wl:Nat) (e:Nat→Int) (x y:Int):qQU Tf (jVL g g2 a b low n q wl e x y) (qY (yWX g g2 a b low n q wl e x y)) 60 3 [.a (gP g),.n .i64 a,.n .i64 b,.n .i64 low,.lf n (fQ q),.lf wl (fQ e),.n .i64 x,.n .i64 y] =
 (bif (decide ((g.np:Int)≤30)) then (bif (decide ((g.ne:Int)≤60)) then (bif (decide (40 < (n:Int))) then (bif (g1 []) then some (.v (.b true),[])
 else none)
 else (bif (g1 [.lf wl (fQ e)]) then (bif (gF1 cen een (g2,a,b)) then (bif (gF1 crp erp (g2,(a % (g2.np:Int)),(b % (g2.np:Int)))) then (bif (stF g2 (a % (g2.np:Int)) (b % (g2.np:Int)) 2) then (bif (decide ((ptN g2 (a % (g2.np:Int)) (b % (g2.np:Int)))≤17592186044416)) then (bif (decide (0 < ((ptN g2 (a % (g2.np:Int)) (b % (g2.np:Int))):Int))) then (bif (gF1 crn ern (x,((ptN g2 (a % (g2.np:Int)) (b % (g2.np:Int))):Int))) then (bif (inB (x % ((ptN g2 (a % (g2.np:Int)) (b % (g2.np:Int))):Int)) (ptN g2 (a % (g2.np:Int)) (b % (g2.np:Int)))) then (bif (gF1 crn ern (y,5)) then (bif (inB (x % ((ptN g2 (a % (g2.np:Int)) (b % (g2.np:Int))):Int)) (ptN g2 (a % (g2.np:Int)) (b % (g2.np:Int)))) then (bif (g1 []) then (bif (gF1 cpts epts (g,a,b)) then (bif (gF1 cpts epts (g2,(a % (g2.np:Int)),(b % (g2.np:Int)))) then (bif (gF1 cchs echs (g,a,b,low,n,q)) then (bif (gF1 cchs echs (g2,(a % (g2.np:Int)),(b % (g2.np:Int)),low,n,q)) then (bif (gF1 cchs echs (g2,(a % (g2.np:Int)),(b % (g2.np:Int)),(ptC g2 (a % (g2.np:Int)) (b % (g2.np:Int))),(ptN g2 (a % (g2.np:Int)) (b % (g2.np:Int))),(fun v=>(bif (Nat.beq v (x % ((ptN g2 (a % (g2.np:Int)) (b % (g2.np:Int))):Int)).toNat) then (vYX .i64 (((ptV g2 (a % (g2.np:Int)) (b % (g2.np:Int))) (x % ((ptN g2 (a % (g2.np:Int)) (b % (g2.np:Int))):Int)).toNat) + (vYX .i64 ((y % 5) - 2)))) else ((ptV g2 (a % (g2.np:Int)) (b % (g2.np:Int))) v))))) then (bif (gF1 crn ern (y,3)) then (bif (gF1 cchs echs (g2,(a % (g2.np:Int)),(b % (g2.np:Int)),(vYX .i64 ((ptC g2 (a % (g2.np:Int)) (b % (g2.np:Int))) + (vYX .i64 ((y % 3) - 1)))),(ptN g2 (a % (g2.np:Int)) (b % (g2.np:Int))),(fun v=>((ptV g2 (a % (g2.np:Int)) (b % (g2.np:Int))) v)))) then some (.v (.b true),[])
 else none)
 else none)
 else none)
 else none)
 else none)
 else none)
 else none)
 else none)
 else none)
 else none)
 else none)
 else none)
 else (bif (g1 []) then (bif (gF1 cpts epts (g,a,b)) then (bif (gF1 cpts epts (g2,(a % (g2.np:Int)),(b % (g2.np:Int)))) then (bif (gF1 cchs echs (g,a,b,low,n,q)) then (bif (gF1 cchs echs (g2,(a % (g2.np:Int)),(b % (g2.np:Int)),low,n,q)) then (bif (gF1 cchs echs (g2,(a % (g2.np:Int)),(b % (g2.np:Int)),(ptC g2 (a % (g2.np:Int)) (b % (g2.np:Int))),(ptN g2 (a % (g2.np:Int)) (b % (g2.np:Int))),(fun v=>((ptV g2 (a % (g2.np:Int)) (b % (g2.np:Int))) v)))) then (bif (gF1 crn ern (y,3)) then (bif (gF1 cchs echs (g2,(a % (g2.np:Int)),(b % (g2.np:Int)),(vYX .i64 ((ptC g2 (a % (g2.np:Int)) (b % (g2.np:Int))) + (vYX .i64 ((y % 3) - 1)))),(ptN g2 (a % (g2.np:Int)) (b % (g2.np:Int))),(fun v=>((ptV g2 (a % (g2.np:Int)) (b % (g2.np:Int))) v)))) then some (.v (.b true),[])
 else none)
 else none)
 else none)
 else none)
 else none)
 else none)
 else none)
 else none))
 else none)
 else (bif (decide ((ptN g2 (a % (g2.np:Int)) (b % (g2.np:Int)))≤17592186044416)) then (bif (decide (0 < ((ptN g2 (a % (g2.np:Int)) (b % (g2.np:Int))):Int))) then (bif (gF1 crn ern (x,((ptN g2 (a % (g2.np:Int)) (b % (g2.np:Int))):Int))) then (bif (inB (x % ((ptN g2 (a % (g2.np:Int)) (b % (g2.np:Int))):Int)) (ptN g2 (a % (g2.np:Int)) (b % (g2.np:Int)))) then (bif (gF1 crn ern (y,5)) then (bif (inB (x % ((ptN g2 (a % (g2.np:Int)) (b % (g2.np:Int))):Int)) (ptN g2 (a % (g2.np:Int)) (b % (g2.np:Int)))) then (bif (g1 []) then (bif (gF1 cpts epts (g,a,b)) then (bif (gF1 cpts epts (g2,(a % (g2.np:Int)),(b % (g2.np:Int)))) then (bif (gF1 cchs echs (g,a,b,low,n,q)) then (bif (gF1 cchs echs (g2,(a % (g2.np:Int)),(b % (g2.np:Int)),low,n,q)) then (bif (gF1 cchs echs (g2,(a % (g2.np:Int)),(b % (g2.np:Int)),(ptC g2 (a % (g2.np:Int)) (b % (g2.np:Int))),(ptN g2 (a % (g2.np:Int)) (b % (g2.np:Int))),(fun v=>(bif (Nat.beq v (x % ((ptN g2 (a % (g2.np:Int)) (b % (g2.np:Int))):Int)).toNat) then (vYX .i64 (((ptV g2 (a % (g2.np:Int)) (b % (g2.np:Int))) (x % ((ptN g2 (a % (g2.np:Int)) (b % (g2.np:Int))):Int)).toNat) + (vYX .i64 ((y % 5) - 2)))) else ((ptV g2 (a % (g2.np:Int)) (b % (g2.np:Int))) v))))) then (bif (gF1 crn ern (y,3)) then (bif (gF1 cchs echs (g2,(a % (g2.np:Int)),(b % (g2.np:Int)),(vYX .i64 ((ptC g2 (a % (g2.np:Int)) (b % (g2.np:Int))) + (vYX .i64 ((y % 3) - 1)))),(ptN g2 (a % (g2.np:Int)) (b % (g2.np:Int))),(fun v=>((ptV g2 (a % (g2.np:Int)) (b % (g2.np:Int))) v)))) then some (.v (.b true),[])
 else none)
 else none)
 else none)
 else none)
 else none)
 else none)
 else none)
 else none)
 else none)
 else none)
 else none)
 else none)
 else (bif (g1 []) then (bif (gF1 cpts epts (g,a,b)) then (bif (gF1 cpts epts (g2,(a % (g2.np:Int)),(b % (g2.np:Int)))) then (bif (gF1 cchs echs (g,a,b,low,n,q)) then (bif (gF1 cchs echs (g2,(a % (g2.np:Int)),(b % (g2.np:Int)),low,n,q)) then (bif (gF1 cchs echs (g2,(a % (g2.np:Int)),(b % (g2.np:Int)),(ptC g2 (a % (g2.np:Int)) (b % (g2.np:Int))),(ptN g2 (a % (g2.np:Int)) (b % (g2.np:Int))),(fun v=>((ptV g2 (a % (g2.np:Int)) (b % (g2.np:Int))) v)))) then (bif (gF1 crn ern (y,3)) then (bif (gF1 cchs echs (g2,(a % (g2.np:Int)),(b % (g2.np:Int)),(vYX .i64 ((ptC g2 (a % (g2.np:Int)) (b % (g2.np:Int))) + (vYX .i64 ((y % 3) - 1)))),(ptN g2 (a % (g2.np:Int)) (b % (g2.np:Int))),(fun v=>((ptV g2 (a % (g2.np:Int)) (b % (g2.np:Int))) v)))) then some (.v (.b true),[])
 else none)
 else none)
 else none)
 else none)
 else none)
 else none)
 else none)
 else none))
 else none))
 else none)
 else none)
 else none))
 else (bif (g1 []) then some (.v (.b true),[])
 else none))
 else (bif (g1 []) then some (.v (.b true),[])
 else none)):=by kernel_rfl
theorem yHH (g g2:Gr) (a b low:Int) (n:Nat) (q:Nat→Int) (wl:Nat) (e:Nat→Int) (x y:Int) (hA:yZ Try.prog 10 [] (.v (.b true))) (hG:yZ Try.prog 11 [.lf wl (fQ e)] (.v (.a (gP g2)))) (hm:jWI g2):yZ Try.prog 3 [.a (gP g),.n .i64 a,.n .i64 b,.n .i64 low,.lf n (fQ q),.lf wl (fQ e),.n .i64 x,.n .i64 y] (.v (.b true)):=by
 refine qG (N:=60) (LO:=qY (yWX g g2 a b low n q wl e x y)) yW yU (yV (l:=[(10,o_cr [] (.v (.b true))),(11,o_cr [.lf wl (fQ e)] (.v (.a (gP g2)))),(12,o_en),(13,o_rp),(14,o_rn),(15,jZC),(16,jZD)]) (m:=[]) ⟨jUB hA,jUB hG,jGI,jKE,jZU,jKF,jUC,trivial⟩ trivial) (fun p S hp => ?_) ?_
 ·refine qX (L:=qQ Tf 3) (l:=(yWX g g2 a b low n q wl e x y)) (show AllP _ (yWX g g2 a b low n q wl e x y) from trivial) p S hp
 ·refine (jVA g g2 a b low n q wl e x y).trans ?_;obtain ⟨_,h2,h9,hn,_⟩:=hm;simp only [g1_t,vYQ];by_cases c1:(g.np:Int)≤30
  ·rw [vYJ c1,vYQ];by_cases c2:(g.ne:Int)≤60
   ·rw [vYJ c2,vYQ];by_cases c3:40 < (n:Int)
    ·rw [vYJ c3]; rfl
    ·rw [vYY c3,vYZ];have hp:g.np≤100∧g.ne≤500:=by omega
     have hp2:g2.np≤100∧g2.ne≤500:=by omega
     have f2:=jK (C:=crp) (enc:=erp) (t:=(g2,a % (g2.np:Int),b % (g2.np:Int))) hp2;have p1:∀ a b,gF1 cpts epts (g,a,b)=true:=fun a b=>jK (C:=cpts) (t:=(g,a,b)) hp
     have p2:∀ a b,gF1 cpts epts (g2,a,b)=true:=fun a b=>jK (C:=cpts) (t:=(g2,a,b)) hp2
     have k1:∀ a b l n q,gF1 cchs echs (g,a,b,l,n,q)=true:=fun a b l n q=>jK (C:=cchs) (t:=(g,a,b,l,n,q)) hp
     have k2:∀ a b l n q,gF1 cchs echs (g2,a,b,l,n,q)=true:=fun a b l n q=>jK (C:=cchs) (t:=(g2,a,b,l,n,q)) hp2
     have rk:∀ x,gF1 crn ern (x,(g2.np:Int))=true:=fun x=>jK (C:=crn) (t:=(x,(g2.np:Int))) (by show 0 < (g2.np:Int)∧_; omega)
     have r5:gF1 crn ern (y,5)=true:=jK (C:=crn) (t:=(y,5)) ⟨by decide,by decide⟩;have r3:gF1 crn ern (y,3)=true:=jK (C:=crn) (t:=(y,3)) ⟨by decide,by decide⟩;have ib:inB (x % (g2.np:Int)) g2.np=true:=by
      have h1:=Int.emod_nonneg x (show (g2.np:Int) ≠ 0 by omega);have h3:=Int.emod_lt_of_pos x (show 0 < (g2.np:Int) by omega);unfold inB; rw [vYJ h1,vYJ (by omega)]; rfl
     simp only [jK (C:=cen) (enc:=een) (t:=(g2,a,b)) (by show 0 < g2.np∧_; omega),f2,p1,p2,k1,k2,vYQ,r3,r5];cases hf:stF g2 (a % (g2.np:Int)) (b % (g2.np:Int)) 2 with
     | true =>
      have hN:ptN g2 (a % (g2.np:Int)) (b % (g2.np:Int))=g2.np:=by unfold ptN; rw [hf]; rfl
      simp only [hN,rk,ib,vYJ (show g2.np≤17592186044416 by omega),vYJ (show (0:Int) < (g2.np:Int) by omega),vYQ]
      try rfl
     | false =>
      have hN:ptN g2 (a % (g2.np:Int)) (b % (g2.np:Int))=0:=by unfold ptN; rw [hf]; rfl
      simp only [hN,vYQ,vYZ]
      try rfl
   ·rw [vYY c2]; rfl
  ·rw [vYY c1]; rfl
end Go.Proofs.Ytglkkhpdbfacfaa.Ce
namespace Go.Rx
open Go.RowKit Go.Sx Go.ChangeShapes Go.WideShapes
section
variable {P:Program} {W:World} {H:Type} {enc:TypeId × Value→H}
def zWV (W:World) (v:Value) (L:List Int):Prop:=RP (fun k=>k < W.heap.size) W (zXB L) v∧L.length≤9223372036854775807∧∀ x ∈ L,In64 x
theorem yZH {t e:TypeId} {v:Value} {d:DataW H} {p:List MemPlace} (ht:P.underlying t=some (.slice e)) (he:P.underlying e=some (.int .i64)) (hc:P.cellsOf e=1)
  {r:Reach} {base:Nat} (hv:Value.okWide P W r base t v) (h:DataW.Trod enc P W 0 (fun _=>true) true t v d p):∃ L:List Int,zWV W v L:=by
 obtain ⟨a,l,c,rfl⟩:=yUK ht hv;obtain ⟨fuel,h⟩:=h;have h':DataW.trod enc P W 0 (fun _=>true) true fuel t [.slice a l c]=some (d,p):=h;rcases open_ints ht he hc h' with ⟨h1,_⟩ | ⟨a',len,cap,zs,h1,_,hlc,hcap,hz,_,hcell,hwf⟩
 ·simp at h1;obtain ⟨rfl,rfl,rfl⟩:=h1;exact ⟨[],.l0 none 0,by simp,fun x hx=>by cases hx⟩
 ·simp at h1;obtain ⟨rfl,rfl,rfl⟩:=h1;simp only [if_true] at hz;have hlen:(zs.take l).length=l:=by simp; omega
  have hI:IntsAt W W.heap.size (.slice (some a') l c) (zs.take l):=⟨by have:maxLen=9223372036854775807:=rfl; omega,some a',c,by rw [hlen],fun j hj=>by
   rw [hlen] at hj;have h0:=hcell 0 (by omega);have hj':=hcell j (by omega);have hsp:a'.spot=none:=by
    have e:a'.add 0=a':=by simp [Addr.add]
    rw [e] at h0;unfold World.cell? at h0;cases hb:W.heap[a'.block]? with
    | none=>simp [hb] at h0
    | some o=>cases o <;> simp [hb] at h0; exact h0.1
   obtain ⟨bb,off,sp⟩:=a';simp only at hsp;subst hsp;rw [qQV] at hj';refine ⟨bb,off,rfl,?_,?_⟩
   ·unfold World.cell? at hj';cases hb:W.heap[bb]? with
    | none=>simp [hb] at hj'
    | some o=>exact qQQ hb
   ·rw [hj'];simp [vZX,vZU,hj]⟩
  refine ⟨zs.take l,?_,hI.1,fun x hx => ?_⟩
  ·have:=zGE (F:=fun k=>k < W.heap.size) (w:=W) (L:=zs.take l) (a:=some a') (c:=c) (by rw [hlen]; exact hI) (by rw [hlen]; exact hlc) fun k hk=>hk
   rw [hlen] at this;exact this
  ·have:=hwf x (List.mem_of_mem_take hx)
   simpa [Lit.wf,IntKind.has,IntKind.min,IntKind.max,IntKind.signed,IntKind.bits,In64] using this
end
end Go.Rx
namespace Go.Proofs.Ytglkkhpdbfacfaa.Cf
open Go.Rx Rt Go.Sx Go.RowKit Go.ChangeShapes Go.WideShapes Ba Bb Bc Bd Be Bf Bi Bj Bk Bl Bh Bm Bn Bo Bp Bq Br Bs Bt Bu Bv Bw Bx By Bz Ca Cb Cc Cd Ce
def shI:List Sh:=[.i .i64]
def shV:List Sh:=[.i .i64,.i .i64,.i .i64]
def shPc:List Sh:=[.i .i64,.i .i64,.l shV]
def shE:List Sh:=[.i .i64,.i .i64,.i .i64,.i .i64,.i .i64,.l shPc,.i .i64,.i .i64,.l shV,.i .i64,.l shI,.l shI]
theorem rowE {ps:List PV} (h:Fits shE ps):∃ e:Ed,ps=edP e:=by
 unfold shE at h;obtain ⟨p0,q0,rfl,f0,h⟩:=h.cons;obtain ⟨p1,q1,rfl,f1,h⟩:=h.cons;obtain ⟨p2,q2,rfl,f2,h⟩:=h.cons;obtain ⟨p3,q3,rfl,f3,h⟩:=h.cons;obtain ⟨p4,q4,rfl,f4,h⟩:=h.cons;obtain ⟨p5,q5,rfl,f5,h⟩:=h.cons;obtain ⟨p6,q6,rfl,f6,h⟩:=h.cons;obtain ⟨p7,q7,rfl,f7,h⟩:=h.cons;obtain ⟨p8,q8,rfl,f8,h⟩:=h.cons;obtain ⟨p9,q9,rfl,f9,h⟩:=h.cons;obtain ⟨p10,q10,rfl,f10,h⟩:=h.cons;obtain ⟨p11,q11,rfl,f11,h⟩:=h.cons;obtain rfl:=h.nil;obtain ⟨x0,rfl,_⟩:=f0.int;obtain ⟨x1,rfl,_⟩:=f1.int;obtain ⟨x2,rfl,_⟩:=f2.int;obtain ⟨x3,rfl,_⟩:=f3.int;obtain ⟨x4,rfl,_⟩:=f4.int;obtain ⟨n5,x5,rfl,_⟩:=f5.slc;obtain ⟨x6,rfl,_⟩:=f6.int;obtain ⟨x7,rfl,_⟩:=f7.int;obtain ⟨n8,x8,rfl,_⟩:=f8.slc;obtain ⟨x9,rfl,_⟩:=f9.int;obtain ⟨n10,x10,rfl,_⟩:=f10.slc;obtain ⟨n11,x11,rfl,_⟩:=f11.slc;exact ⟨⟨x0,x1,x2,x3,x4,x6,x7,x9,n5,x5,n8,x8,n10,x10,n11,x11⟩,rfl⟩
theorem jHI {α:Type} (a0:α) {n:Nat} {f:Nat→List PV} {R:List PV→α→Prop} (h:∀ j,j < n→∃ a,R (f j) a):∃ g:Nat→α,∀ j,j < n→R (f j) (g j):=by
 have each:∀ j,∃ a:α,j < n→R (f j) a:=fun j=>by
  by_cases hj:j < n
  ·obtain ⟨a,ha⟩:=h j hj; exact ⟨a,fun _=>ha⟩
  ·exact ⟨a0,fun h=>absurd h hj⟩
 obtain ⟨g,hg⟩:=Classical.axiomOfChoice each;exact ⟨g,hg⟩
section
variable {W:World} {H:Type} {enc:TypeId × Value→H} {r:Reach} {base:Nat} {v:Value} {d:DataW H} {p:List MemPlace}
theorem jWL:shT Try.prog 9 25=some [.l [.l shI],.l shE]:=by kernel_rfl
set_option maxRecDepth 100000 in
theorem open_gr (hv:Value.okWide Try.prog W r base 25 v) (h:DataW.Trod enc Try.prog W 0 (fun _=>true) true 25 v d p):∃ g:Gr,RP (fun k=>k < W.heap.size) W (.a (gP g)) v:=by
 obtain ⟨ps,hr,hf⟩:=yUB Try.underlying25 hv h jWL;obtain ⟨p1,ps,rfl,f1,hf⟩:=hf.cons;obtain ⟨p2,ps,rfl,f2,hf⟩:=hf.cons;obtain rfl:=hf.nil;obtain ⟨n,f,rfl,_⟩:=f1.slc;obtain ⟨m,k,rfl,g2⟩:=f2.slc;obtain ⟨ed,he⟩:=jHI (unE []) (R:=fun ps z=>ps=edP z) fun j hj=>rowE (g2 j hj)
 have s:Sames [.lf n f,.lf m k] [.lf n f,.lf m (fE ed)]:=⟨Same.refl _,jYY he,trivial⟩
 exact ⟨⟨n,f,m,ed⟩,Same.a s _ _ _ hr⟩
end
theorem snd_bpt (hA:yZ Try.prog 10 [] (.v (.b true))) (g:Gr) (a b low:Int) (q:List Int) (_:q.length≤9223372036854775807) (l:List Int) (hl:l.length≤9223372036854775807) (x y:Int):yZ Try.prog 3 [.a (gP g),.n .i64 a,.n .i64 b,.n .i64 low,zXB q,zXB l,.n .i64 x,.n .i64 y] (.v (.b true)):=by
 obtain ⟨g2,hG,hm⟩:=jHF l.length (iqOf l) hl;refine yUY (fun F w vals h=>Sames.al (xs:=[.a (gP g),.n .i64 a,.n .i64 b,.n .i64 low,zXB q,zXB l,.n .i64 x,.n .i64 y]) (ys:=[.a (gP g),.n .i64 a,.n .i64 b,.n .i64 low,.lf q.length (fQ (iqOf q)),.lf l.length (fQ (iqOf l)),.n .i64 x,.n .i64 y]) ⟨fun _ _ _ h=>h,fun _ _ _ h=>h,fun _ _ _ h=>h,fun _ _ _ h=>h,zKW q,zKW l,fun _ _ _ h=>h,fun _ _ _ h=>h,trivial⟩ h) ?_;exact yHH g g2 a b low _ _ _ _ x y hA hG hm
end Go.Proofs.Ytglkkhpdbfacfaa.Cf
namespace Go.Proofs.Ytglkkhpdbfacfaa
open Go.Rx Go.Sx Go.RowKit Bb
theorem qWJ (v0:Value) (g0:Gr) (a1:Int) (a2:Int) (a3:Int) (v4:Value) (L4:List Int) (v5:Value) (L5:List Int) (a6:Int) (a7:Int) (W:World) (h0:RP (fun k=>k < W.heap.size) W (.a (gP g0)) v0) (h4:zWV W v4 L4) (h5:zWV W v5 L5):Calls Try.prog 3 #[v0,.int .i64 a1,.int .i64 a2,.int .i64 a3,v4,v5,.int .i64 a6,.int .i64 a7] W (Rets (.bool true) W) :=
 zYI (Cf.snd_bpt Ag.call g0 a1 a2 a3 L4 h4.2.1 L5 h5.2.1 a6 a7) rfl (qZG h0 (qZG (.n _ _) (qZG (.n _ _) (qZG (.n _ _) (qZG h4.1 (qZG h5.1 (qZG (.n _ _) (qZG (.n _ _) zUQ))))))))
end Go.Proofs.Ytglkkhpdbfacfaa

/- Part 12 of the texts behind the last one: rules and contracts. No condition. -/
import Derived.Test.YtglkkhpdbfacfaaBV11
open Bool renaming and_eq_true → vQJ, true_and → vZW
open List renaming getElem?_take → vZU, getD_eq_getElem?_getD → vZX
open Nat renaming eq_of_beq_eq_true → vQU
open Go.IntKind renaming wrap → vYX
namespace Go.Proofs.Ytglkkhpdbfacfaa.Cc
open Go.Rx Rt Go.Sx Go.RowKit Ba Bb Bc Bd Be Bf Bi Bj Bk Bl Bh Bm Bn Bo Bp Bq Br Bs Bt Bu Bv Bw Bx By Bz
noncomputable def jWX (x k:Int):OrS:=orS [] []
noncomputable def yXI (x k:Int):List (List Nat × yK):=[]
set_option maxRecDepth 100000 in
theorem jXF (x k:Int):qZV Tf (jWX x k) (qY (yXI x k)) 60 14 [.n .i64 x,.n .i64 k] =
 (bif (decide (k=0)) then none
 else (bif (decide ((x.tmod k) < 0)) then some (.v (.n .i64 (vYX .i64 ((x.tmod k) + k))),[])
 else some (.v (.n .i64 (x.tmod k)),[]))):=by kernel_rfl
theorem yGI (x k:Int) (hk:0 < k∧k≤9223372036854775807):zH Try.prog 14 [.n .i64 x,.n .i64 k] (.v (.n .i64 (x % k))):=by
 refine zJ (N:=60) (LO:=qY (yXI x k)) kJ jJ (kX (l:=[]) (m:=[]) trivial trivial) (fun p S hp => ?_) ?_
 ·refine qV (L:=qZ Tf 14) (l:=(yXI x k)) (show AllP _ (yXI x k) from trivial) p S hp
 ·refine (jXF x k).trans ?_;have hk0:k ≠ 0:=by omega
  have h1:=Int.emod_nonneg x hk0;have h2:=Int.emod_lt_of_pos x hk.1;rw [vYY (show ¬ k=0 by omega),Int.tmod_eq_emod];by_cases h:0≤x ∨ k ∣ x
  ·rw [if_pos h,show ((0:Nat):Int)=0 from rfl,Int.sub_zero,vYY (show ¬ x % k < 0 by omega)];rfl
  ·rw [if_neg h,show ((k.natAbs:Nat):Int)=k by omega,vYJ (show x % k - k < 0 by omega),show vYX .i64 (x % k - k + k)=x % k from by rw [show x % k - k + k=x % k by omega]; exact yG (by omega)];rfl
def crn:Int × Int→Prop:=fun t=>match t with | (_,k)=>0 < k∧k≤9223372036854775807
def ern:Int × Int→List PV:=fun t=>match t with | (x,k)=>[.n .i64 x,.n .i64 k]
noncomputable def rrn:Int × Int→Ret:=fun t=>match t with | (x,k)=>.v (.n .i64 (x % k))
def drn:List PV→Int × Int:=fun ps=>match ps with
 | [.n _ x,.n _ k]=>(x,k)
 | _=>(0,0)
noncomputable def o_rn:List PV→Option (Bool × Ret):=o_fm drn crn ern rrn
theorem yZC:qZC Try.prog 14 o_rn:=qJJ fun t h=>by
 obtain ⟨x,k⟩:=t;exact yGI x k h
noncomputable def ornx (wl m:Nat) (e:Nat→Int) (k:Int):OrS:=orS [(14,o_rn)] []
noncomputable def lsnx (wl m:Nat) (e:Nat→Int) (k:Int):List (List Nat × yK):=[]
set_option maxRecDepth 100000 in
theorem pxnx (wl m:Nat) (e:Nat→Int) (k:Int):zGH Tf (ornx wl m e k) (qY (lsnx wl m e k)) 60 30 [.p 1000000 0,.v (.n .i64 k)] [.lf wl (fQ e),.n .i64 (m:Int)] =
 (bif (decide ((wl:Int)≤(m:Int))) then some (.v (.t [.n .i64 0,.lf wl (fQ e),.n .i64 (m:Int)]),[])
 else (bif (inB (vYX .i64 ((vYX .i64 ((m:Int) + 1)) - 1)) wl) then (bif (gF1 crn ern ((e ((vYX .i64 ((vYX .i64 ((m:Int) + 1)) - 1))).toNat),k)) then some (.v (.t [.n .i64 ((e ((vYX .i64 ((vYX .i64 ((m:Int) + 1)) - 1))).toNat) % k),.lf wl (fQ e),.n .i64 (vYX .i64 ((m:Int) + 1))]),[])
 else none)
 else none)):=by kernel_rfl
theorem jYB (wl m:Nat) (e:Nat→Int) (k:Int) (_:m≤wl) (_:wl≤9223372036854775807) (hk:0 < k∧k≤9223372036854775807):yQJ Try.prog 30 [.p 1000000 0,.v (.n .i64 k)] [.lf wl (fQ e),.n .i64 (m:Int)] (.n .i64 (nxV e wl m k)) ([.lf wl (fQ e),.n .i64 ((min (m + 1) wl:Nat):Int)]):=by
 refine zUW (N:=60) (LO:=qY (lsnx wl m e k)) kJ jJ (kX (l:=[(14,o_rn)]) (m:=[]) ⟨yZC,trivial⟩ trivial) (fun p S hp => ?_) ?_
 ·refine qV (L:=qZ Tf 30) (l:=(lsnx wl m e k)) (show AllP _ (lsnx wl m e k) from trivial) p S hp
 ·refine (pxnx wl m e k).trans ?_;unfold nxV eW;by_cases h:m < wl
  ·have h1:vYX .i64 ((m:Int) + 1)=(m:Int) + 1:=yG (by omega);have h2:vYX .i64 ((m:Int) + 1 - 1)=((m:Nat):Int):=by rw [yG (by omega)]; omega
   rw [vYY (show ¬ (wl:Int)≤(m:Int) by omega),h1,h2,zV h,toN,uX (C:=crn) (t:=(_,k)) hk,show Nat.blt m wl=true from by rw [Nat.blt_eq]; exact h,show min (m + 1) wl=m + 1 by omega];rfl
  ·rw [vYJ (show (wl:Int)≤(m:Int) by omega),show Nat.blt m wl=false from by rw [Bool.eq_false_iff,ne_eq,Nat.blt_eq]; exact h,show min (m + 1) wl=m by omega]
   simp
def cnx:Nat × Nat × (Nat→Int) × Int→Prop:=fun t=>match t with | (w,m,_,k)=>m≤w∧w≤9223372036854775807∧0 < k∧k≤9223372036854775807
def hnx:Nat × Nat × (Nat→Int) × Int→List HV:=fun t=>match t with | (_,_,_,k)=>[.p pid 0,.v (.n .i64 k)]
def enx:Nat × Nat × (Nat→Int) × Int→List PV:=fun t=>match t with | (w,m,e,_)=>[.lf w (fQ e),.n .i64 (m:Int)]
noncomputable def xnx:Nat × Nat × (Nat→Int) × Int→PV:=fun t=>match t with | (w,m,e,k)=>.n .i64 (nxV e w m k)
noncomputable def qnx:Nat × Nat × (Nat→Int) × Int→List PV:=fun t=>match t with | (w,m,e,_)=>[.lf w (fQ e),.n .i64 ((min (m + 1) w:Nat):Int)]
def dnx:List HV→List PV→Nat × Nat × (Nat→Int) × Int:=fun hs ps=>match hs,ps with
 | [_,.v (.n _ k)],[.lf w f,.n _ c]=>(w,c.toNat,unFQ f,k)
 | _,_=>(0,0,fun _=>0,0)
noncomputable def o_nx:List HV→List PV→Option (Bool × (PV × List PV)):=o_fb dnx cnx hnx enx xnx qnx
theorem jWB:yKB Try.prog 30 o_nx:=jWF fun t h=>by
 obtain ⟨w,m,e,k⟩:=t;exact jYB w m e k h.1 h.2.1 h.2.2
def clK (x:Int):Int:=bif decide (x=1) then 1 else bif decide (x=2) then 2 else 0
def clA (x:Int):Nat:=bif decide (x=1) then 1 else 0
def clB (x:Int):Nat:=bif decide (x=2) then 1 else 0
def clD (x:Int):Int:=bif decide (x=3) then 1 else 0
def clF:Nat→List PV:=fun _=>[.n .i64 0,.n .i64 0,.zs]
def clG:Nat→List PV:=fun _=>[.n .i64 1]
theorem jJZ (x:Int) (_:0≤x∧x≤3):zH Try.prog 31 [.n .i64 x] (.v (.a [.n .i64 (clK x),.lf (clA x) clF,.n .i64 (clD x),.n .i64 0,.lf 0 clG,.n .i64 0,.lf (clB x) clG,.lf (clB x) clG])):=by
 have hs:x=0 ∨ x=1 ∨ x=2 ∨ x=3:=by omega
 rcases hs with rfl | rfl | rfl | rfl
 ·exact qYC (x:=.a [.n .i64 0,.l [],.n .i64 0,.n .i64 0,.l [],.n .i64 0,.l [],.l []]) (Same.a (xs:=[_,_,_,_,_,_,_,_]) ⟨Same.refl _,Same.lf rfl,Same.refl _,Same.refl _,Same.lf rfl,Same.refl _,Same.lf rfl,Same.lf rfl,trivial⟩) (qQL (N:=60) qYW jJ qWV (by kernel_rfl))
 ·exact qYC (x:=.a [.n .i64 1,.l [[.n .i64 0,.n .i64 0,.zs]],.n .i64 0,.n .i64 0,.l [],.n .i64 0,.l [],.l []]) (Same.a (xs:=[_,_,_,_,_,_,_,_]) ⟨Same.refl _,Same.lf rfl,Same.refl _,Same.refl _,Same.lf rfl,Same.refl _,Same.lf rfl,Same.lf rfl,trivial⟩) (qQL (N:=60) qYW jJ qWV (by kernel_rfl))
 ·exact qYC (x:=.a [.n .i64 2,.l [],.n .i64 0,.n .i64 0,.l [],.n .i64 0,.l [[.n .i64 1]],.l [[.n .i64 1]]]) (Same.a (xs:=[_,_,_,_,_,_,_,_]) ⟨Same.refl _,Same.lf rfl,Same.refl _,Same.refl _,Same.lf rfl,Same.refl _,Same.lf rfl,Same.lf rfl,trivial⟩) (qQL (N:=60) qYW jJ qWV (by kernel_rfl))
 ·exact qYC (x:=.a [.n .i64 0,.l [],.n .i64 1,.n .i64 0,.l [],.n .i64 0,.l [],.l []]) (Same.a (xs:=[_,_,_,_,_,_,_,_]) ⟨Same.refl _,Same.lf rfl,Same.refl _,Same.refl _,Same.lf rfl,Same.refl _,Same.lf rfl,Same.lf rfl,trivial⟩) (qQL (N:=60) qYW jJ qWV (by kernel_rfl))
def ccl:Int→Prop:=fun t=>match t with | x=>0≤x∧x≤3
def ecl:Int→List PV:=fun t=>match t with | x=>[.n .i64 x]
noncomputable def rcl:Int→Ret:=fun t=>match t with | x=>.v (.a [.n .i64 (clK x),.lf (clA x) clF,.n .i64 (clD x),.n .i64 0,.lf 0 clG,.n .i64 0,.lf (clB x) clG,.lf (clB x) clG])
def dcl:List PV→Int:=fun ps=>match ps with
 | [.n _ x]=>x
 | _=>0
noncomputable def o_cl:List PV→Option (Bool × Ret):=o_fm dcl ccl ecl rcl
theorem jVQ:qZC Try.prog 31 o_cl:=qJJ fun t h=>by
 revert h; revert t; intro x h
 exact jJZ x h
noncomputable def org0 (N wl:Nat) (e:Nat→Int):OrS:=orS [(31,o_cl)] [(30,o_nx)]
def gsF (x:Int):Int:=(bif (decide (x=0)) then 0 else (bif (decide ((x - 1)=0)) then 0 else (bif (decide (((x - 1) - 1)=0)) then 1 else (bif (decide ((((x - 1) - 1) - 1)=0)) then 1 else (bif (decide (((((x - 1) - 1) - 1) - 1)=0)) then 1 else (bif (decide ((((((x - 1) - 1) - 1) - 1) - 1)=0)) then 2 else (bif (decide (((((((x - 1) - 1) - 1) - 1) - 1) - 1)=0)) then 3 else 1)))))))
noncomputable def hg0 (N wl:Nat) (e:Nat→Int) (i:Int) (rn:Nat) (f:Nat→List PV):St:=⟨[(2,.p 2 0),(3,.p 11 0),(4,.p 4 0),(5,.v (.n .i64 (vYX .i64 (2 + (nxV e wl 0 8))))),(6,.v (.n .i64 i))],[(2,.blk [.nl,.nl]),(4,.blk [.o 25,.nl]),(11,.blk [.v (.lf wl (fQ e)),.v (.n .i64 ((mA wl 0 1:Nat):Int))]),(25,.reg 26 1 (.fo rn f))]⟩
set_option maxRecDepth 100000 in
theorem rdg0 (G:St→Option (Ret × Mem)) (K:Cont) (N wl:Nat) (e:Nat→Int) (i:Int) (rn:Nat) (f:Nat→List PV):yX (N + 10) (cxS Tf (org0 N wl e) (N + 10) 11 (ntmF Tf 11)) (evX Tf (org0 N wl e) (N + 10) 11 (ntmF Tf 11)) (qY []) (qZ Tf 11 [0,1,0,1,1,1,1]) [0,1,0,1,1,1,1] (Tf.hint 11 (qJ (qZ Tf 11 [0,1,0,1,1,1,1]))) K G (hg0 N wl e i rn f) =
 (bif (decide (i < (vYX .i64 (2 + (nxV e wl 0 8))))) then (bif (decide (rn + 1≤1000000)) then (G (hg0 N wl e (vYX .i64 (i + 1)) (rn + 1) (fun v=>kY (Nat.beq v rn) [.l [[.n .i64 i]]] (f v))))
 else none)
 else (K (.exit 0) ⟨[(2,.p 2 0),(3,.p 11 0),(4,.p 4 0),(5,.v (.n .i64 (vYX .i64 (2 + (nxV e wl 0 8)))))],[(2,.blk [.nl,.nl]),(4,.blk [.o 25,.nl]),(11,.blk [.v (.lf wl (fQ e)),.v (.n .i64 ((mA wl 0 1:Nat):Int))]),(25,.reg 26 1 (.fo rn f))]⟩)):=by kernel_rfl
noncomputable def dcg0 (wl:Nat) (e:Nat→Int):(Int × Nat × (Nat→List PV))→(Int × Nat × (Nat→List PV)) ⊕ (Nat × Int × Nat × (Nat→List PV)):=fun t=>match t with | (i,rn,f)=>(bif (decide (i < (vYX .i64 (2 + (nxV e wl 0 8))))) then (bif (decide (rn + 1≤1000000)) then (.inl ((vYX .i64 (i + 1)),(rn + 1),(fun v=>kY (Nat.beq v rn) [.l [[.n .i64 i]]] (f v)))) else (.inr (1,(i,rn,f)))) else (.inr (0,(i,rn,f))))
noncomputable def kxg0 (N wl:Nat) (e:Nat→Int) (K:Cont) (w9:Nat × Int × Nat × (Nat→List PV)):Option (Ret × Mem):=bif Nat.beq w9.1 0 then (K (.exit 0) ⟨[(2,.p 2 0),(3,.p 11 0),(4,.p 4 0),(5,.v (.n .i64 (vYX .i64 (2 + (nxV e wl 0 8)))))],[(2,.blk [.nl,.nl]),(4,.blk [.o 25,.nl]),(11,.blk [.v (.lf wl (fQ e)),.v (.n .i64 ((mA wl 0 1:Nat):Int))]),(25,.reg 26 1 (.fo w9.2.2.1 w9.2.2.2))]⟩) else none
theorem wlg0 (K:Cont) (N wl:Nat) (e:Nat→Int):∀ n9 (t:(Int × Nat × (Nat→List PV))),LFX (N + 10) (cxS Tf (org0 N wl e) (N + 10) 11 (ntmF Tf 11)) (evX Tf (org0 N wl e) (N + 10) 11 (ntmF Tf 11)) (qY []) (qZ Tf 11 [0,1,0,1,1,1,1]) [0,1,0,1,1,1,1] (Tf.hint 11 (qJ (qZ Tf 11 [0,1,0,1,1,1,1]))) K n9 (hg0 N wl e t.1 t.2.1 t.2.2)=(qX (dcg0 wl e) n9 t).bind (kxg0 N wl e K):=fun n9 t=>by
 refine qQY (L:=LFX (N + 10) (cxS Tf (org0 N wl e) (N + 10) 11 (ntmF Tf 11)) (evX Tf (org0 N wl e) (N + 10) 11 (ntmF Tf 11)) (qY []) (qZ Tf 11 [0,1,0,1,1,1,1]) [0,1,0,1,1,1,1] (Tf.hint 11 (qJ (qZ Tf 11 [0,1,0,1,1,1,1]))) K) (stp:=yX (N + 10) (cxS Tf (org0 N wl e) (N + 10) 11 (ntmF Tf 11)) (evX Tf (org0 N wl e) (N + 10) 11 (ntmF Tf 11)) (qY []) (qZ Tf 11 [0,1,0,1,1,1,1]) [0,1,0,1,1,1,1] (Tf.hint 11 (qJ (qZ Tf 11 [0,1,0,1,1,1,1]))) K) (fun _ _=>rfl) (fun _=>rfl) (fun t=>hg0 N wl e t.1 t.2.1 t.2.2) (fun _=>True) (dcg0 wl e) (kxg0 N wl e K) (fun G t _ => ?_) (fun _ _ _ _=>trivial) n9 t trivial;obtain ⟨i,rn,f⟩:=t;refine (rdg0 G K N wl e i rn f).trans ?_;dsimp only [dcg0];cases (decide (i < (vYX .i64 (2 + (nxV e wl 0 8)))))
 ·rfl
 ·cases (decide (rn + 1≤1000000))
  ·rfl
  ·rfl
noncomputable def zHK (N:Nat) (wl:Nat) (e:Nat→Int) (t:(Int × Nat × (Nat→List PV))):Bool:=(qX (dcg0 wl e) (N + 10) t).isSome
noncomputable def qZK (N:Nat) (wl:Nat) (e:Nat→Int) (t:(Int × Nat × (Nat→List PV))):Nat × Int × Nat × (Nat→List PV):=(qX (dcg0 wl e) (N + 10) t).getD (99,t)
theorem lwg0 (K:Cont) (N wl:Nat) (e:Nat→Int) (t:(Int × Nat × (Nat→List PV))) (hg:zHK N wl e t=true):LFX (N + 10) (cxS Tf (org0 N wl e) (N + 10) 11 (ntmF Tf 11)) (evX Tf (org0 N wl e) (N + 10) 11 (ntmF Tf 11)) (qY []) (qZ Tf 11 [0,1,0,1,1,1,1]) [0,1,0,1,1,1,1] (Tf.hint 11 (qJ (qZ Tf 11 [0,1,0,1,1,1,1]))) K (N + 10) (hg0 N wl e t.1 t.2.1 t.2.2)=kxg0 N wl e K (qZK N wl e t):=by
 refine (wlg0 K N wl e (N + 10) t).trans ?_;unfold zHK at hg;unfold qZK;cases h:qX (dcg0 wl e) (N + 10) t with
 | none=>rw [h] at hg; cases hg
 | some y=>rfl
noncomputable def hg2 (N wl:Nat) (e:Nat→Int) (x:Int) (y:Int) (m2:Nat) (pn:Nat) (pf:Nat→List PV) (rn:Nat) (f:Nat→List PV):St:=⟨[(2,.p 2 0),(3,.p 11 0),(4,.p 4 0),(5,.v (.n .i64 (vYX .i64 (2 + (nxV e wl 0 8))))),(7,.v (.n .i64 x)),(8,.v (.n .i64 y))],[(2,.blk [.nl,.nl]),(4,.blk [.o 25,.o 59]),(11,.blk [.v (.lf wl (fQ e)),.v (.n .i64 (m2:Int))]),(25,.reg 26 1 (.fo pn pf)),(59,.reg 66 12 (.fo rn f))]⟩
set_option maxRecDepth 100000 in
theorem rdg2 (G:St→Option (Ret × Mem)) (K:Cont) (N wl:Nat) (e:Nat→Int) (x:Int) (y:Int) (m2:Nat) (pn:Nat) (pf:Nat→List PV) (rn:Nat) (f:Nat→List PV):yX (N + 10) (cxS Tf (org0 N wl e) (N + 10) 11 (ntmF Tf 11)) (evX Tf (org0 N wl e) (N + 10) 11 (ntmF Tf 11)) (qY []) (qZ Tf 11 [0,1,0,0,1,0,0,1,0,1,1,1,1,1]) [0,1,0,0,1,0,0,1,0,1,1,1,1,1] (Tf.hint 11 (qJ (qZ Tf 11 [0,1,0,0,1,0,0,1,0,1,1,1,1,1]))) K G (hg2 N wl e x y m2 pn pf rn f) =
 (bif (decide (y < (vYX .i64 (2 + (nxV e wl 0 8))))) then (bif (gB1 cnx hnx enx (wl,m2,e,5)) then (bif (decide ((nxV e wl m2 5) < 2)) then (bif (gB1 cnx hnx enx (wl,(mA wl m2 1),e,7)) then (bif (gB1 cnx hnx enx (wl,(mA wl m2 2),e,8)) then (bif (inB (nxV e wl (mA wl m2 2) 8) 8 && true) then (bif (gF1 ccl ecl (gsF (nxV e wl (mA wl m2 2) 8))) then (bif (decide (rn + 1≤1000000)) then (G (hg2 N wl e x (vYX .i64 (y + 1)) (mA wl m2 3) pn pf (rn + 1) (fun v=>kY (Nat.beq v rn) [.n .i64 x,.n .i64 y,.n .i64 (nxV e wl (mA wl m2 1) 7),.n .i64 (gsF (nxV e wl (mA wl m2 2) 8)),.n .i64 (clK (gsF (nxV e wl (mA wl m2 2) 8))),.lf (clA (gsF (nxV e wl (mA wl m2 2) 8))) clF,.n .i64 (clD (gsF (nxV e wl (mA wl m2 2) 8))),.n .i64 0,.lf 0 clG,.n .i64 0,.lf (clB (gsF (nxV e wl (mA wl m2 2) 8))) clG,.lf (clB (gsF (nxV e wl (mA wl m2 2) 8))) clG] (f v))))
 else none)
 else none)
 else none)
 else none)
 else none)
 else (G (hg2 N wl e x (vYX .i64 (y + 1)) (mA wl m2 1) pn pf rn f)))
 else none)
 else (K (.exit 4) ⟨[(2,.p 2 0),(3,.p 11 0),(4,.p 4 0),(5,.v (.n .i64 (vYX .i64 (2 + (nxV e wl 0 8))))),(7,.v (.n .i64 x))],[(2,.blk [.nl,.nl]),(4,.blk [.o 25,.o 59]),(11,.blk [.v (.lf wl (fQ e)),.v (.n .i64 (m2:Int))]),(25,.reg 26 1 (.fo pn pf)),(59,.reg 66 12 (.fo rn f))]⟩)):=by kernel_rfl
noncomputable def dcg2 (wl:Nat) (e:Nat→Int):(Int × Int × Nat × Nat × (Nat→List PV) × Nat × (Nat→List PV))→(Int × Int × Nat × Nat × (Nat→List PV) × Nat × (Nat→List PV)) ⊕ (Nat × Int × Int × Nat × Nat × (Nat→List PV) × Nat × (Nat→List PV)):=fun t=>match t with | (x,y,m2,pn,pf,rn,f)=>(bif (decide (y < (vYX .i64 (2 + (nxV e wl 0 8))))) then (bif (gB1 cnx hnx enx (wl,m2,e,5)) then (bif (decide ((nxV e wl m2 5) < 2)) then (bif (gB1 cnx hnx enx (wl,(mA wl m2 1),e,7)) then (bif (gB1 cnx hnx enx (wl,(mA wl m2 2),e,8)) then (bif (inB (nxV e wl (mA wl m2 2) 8) 8 && true) then (bif (gF1 ccl ecl (gsF (nxV e wl (mA wl m2 2) 8))) then (bif (decide (rn + 1≤1000000)) then (.inl (x,(vYX .i64 (y + 1)),(mA wl m2 3),pn,pf,(rn + 1),(fun v=>kY (Nat.beq v rn) [.n .i64 x,.n .i64 y,.n .i64 (nxV e wl (mA wl m2 1) 7),.n .i64 (gsF (nxV e wl (mA wl m2 2) 8)),.n .i64 (clK (gsF (nxV e wl (mA wl m2 2) 8))),.lf (clA (gsF (nxV e wl (mA wl m2 2) 8))) clF,.n .i64 (clD (gsF (nxV e wl (mA wl m2 2) 8))),.n .i64 0,.lf 0 clG,.n .i64 0,.lf (clB (gsF (nxV e wl (mA wl m2 2) 8))) clG,.lf (clB (gsF (nxV e wl (mA wl m2 2) 8))) clG] (f v)))) else (.inr (1,(x,y,m2,pn,pf,rn,f)))) else (.inr (1,(x,y,m2,pn,pf,rn,f)))) else (.inr (1,(x,y,m2,pn,pf,rn,f)))) else (.inr (1,(x,y,m2,pn,pf,rn,f)))) else (.inr (1,(x,y,m2,pn,pf,rn,f)))) else (.inl (x,(vYX .i64 (y + 1)),(mA wl m2 1),pn,pf,rn,f))) else (.inr (1,(x,y,m2,pn,pf,rn,f)))) else (.inr (0,(x,y,m2,pn,pf,rn,f))))
noncomputable def kxg2 (N wl:Nat) (e:Nat→Int) (K:Cont) (w9:Nat × Int × Int × Nat × Nat × (Nat→List PV) × Nat × (Nat→List PV)):Option (Ret × Mem):=bif Nat.beq w9.1 0 then (K (.exit 4) ⟨[(2,.p 2 0),(3,.p 11 0),(4,.p 4 0),(5,.v (.n .i64 (vYX .i64 (2 + (nxV e wl 0 8))))),(7,.v (.n .i64 w9.2.1))],[(2,.blk [.nl,.nl]),(4,.blk [.o 25,.o 59]),(11,.blk [.v (.lf wl (fQ e)),.v (.n .i64 (w9.2.2.2.1:Int))]),(25,.reg 26 1 (.fo w9.2.2.2.2.1 w9.2.2.2.2.2.1)),(59,.reg 66 12 (.fo w9.2.2.2.2.2.2.1 w9.2.2.2.2.2.2.2))]⟩) else none
theorem wlg2 (K:Cont) (N wl:Nat) (e:Nat→Int):∀ n9 (t:(Int × Int × Nat × Nat × (Nat→List PV) × Nat × (Nat→List PV))),LFX (N + 10) (cxS Tf (org0 N wl e) (N + 10) 11 (ntmF Tf 11)) (evX Tf (org0 N wl e) (N + 10) 11 (ntmF Tf 11)) (qY []) (qZ Tf 11 [0,1,0,0,1,0,0,1,0,1,1,1,1,1]) [0,1,0,0,1,0,0,1,0,1,1,1,1,1] (Tf.hint 11 (qJ (qZ Tf 11 [0,1,0,0,1,0,0,1,0,1,1,1,1,1]))) K n9 (hg2 N wl e t.1 t.2.1 t.2.2.1 t.2.2.2.1 t.2.2.2.2.1 t.2.2.2.2.2.1 t.2.2.2.2.2.2)=(qX (dcg2 wl e) n9 t).bind (kxg2 N wl e K):=fun n9 t=>by
 refine qQY (L:=LFX (N + 10) (cxS Tf (org0 N wl e) (N + 10) 11 (ntmF Tf 11)) (evX Tf (org0 N wl e) (N + 10) 11 (ntmF Tf 11)) (qY []) (qZ Tf 11 [0,1,0,0,1,0,0,1,0,1,1,1,1,1]) [0,1,0,0,1,0,0,1,0,1,1,1,1,1] (Tf.hint 11 (qJ (qZ Tf 11 [0,1,0,0,1,0,0,1,0,1,1,1,1,1]))) K) (stp:=yX (N + 10) (cxS Tf (org0 N wl e) (N + 10) 11 (ntmF Tf 11)) (evX Tf (org0 N wl e) (N + 10) 11 (ntmF Tf 11)) (qY []) (qZ Tf 11 [0,1,0,0,1,0,0,1,0,1,1,1,1,1]) [0,1,0,0,1,0,0,1,0,1,1,1,1,1] (Tf.hint 11 (qJ (qZ Tf 11 [0,1,0,0,1,0,0,1,0,1,1,1,1,1]))) K) (fun _ _=>rfl) (fun _=>rfl) (fun t=>hg2 N wl e t.1 t.2.1 t.2.2.1 t.2.2.2.1 t.2.2.2.2.1 t.2.2.2.2.2.1 t.2.2.2.2.2.2) (fun _=>True) (dcg2 wl e) (kxg2 N wl e K) (fun G t _ => ?_) (fun _ _ _ _=>trivial) n9 t trivial;obtain ⟨x,y,m2,pn,pf,rn,f⟩:=t;refine (rdg2 G K N wl e x y m2 pn pf rn f).trans ?_;dsimp only [dcg2];cases (decide (y < (vYX .i64 (2 + (nxV e wl 0 8)))))
 ·rfl
 ·cases (gB1 cnx hnx enx (wl,m2,e,5))
  ·rfl
  ·cases (decide ((nxV e wl m2 5) < 2))
   ·rfl
   ·cases (gB1 cnx hnx enx (wl,(mA wl m2 1),e,7))
    ·rfl
    ·cases (gB1 cnx hnx enx (wl,(mA wl m2 2),e,8))
     ·rfl
     ·cases (inB (nxV e wl (mA wl m2 2) 8) 8 && true)
      ·rfl
      ·cases (gF1 ccl ecl (gsF (nxV e wl (mA wl m2 2) 8)))
       ·rfl
       ·cases (decide (rn + 1≤1000000))
        ·rfl
        ·rfl
noncomputable def qJB (N:Nat) (wl:Nat) (e:Nat→Int) (t:(Int × Int × Nat × Nat × (Nat→List PV) × Nat × (Nat→List PV))):Bool:=(qX (dcg2 wl e) (N + 10) t).isSome
noncomputable def qQU (N:Nat) (wl:Nat) (e:Nat→Int) (t:(Int × Int × Nat × Nat × (Nat→List PV) × Nat × (Nat→List PV))):Nat × Int × Int × Nat × Nat × (Nat→List PV) × Nat × (Nat→List PV):=(qX (dcg2 wl e) (N + 10) t).getD (99,t)
theorem lwg2 (K:Cont) (N wl:Nat) (e:Nat→Int) (t:(Int × Int × Nat × Nat × (Nat→List PV) × Nat × (Nat→List PV))) (hg:qJB N wl e t=true):LFX (N + 10) (cxS Tf (org0 N wl e) (N + 10) 11 (ntmF Tf 11)) (evX Tf (org0 N wl e) (N + 10) 11 (ntmF Tf 11)) (qY []) (qZ Tf 11 [0,1,0,0,1,0,0,1,0,1,1,1,1,1]) [0,1,0,0,1,0,0,1,0,1,1,1,1,1] (Tf.hint 11 (qJ (qZ Tf 11 [0,1,0,0,1,0,0,1,0,1,1,1,1,1]))) K (N + 10) (hg2 N wl e t.1 t.2.1 t.2.2.1 t.2.2.2.1 t.2.2.2.2.1 t.2.2.2.2.2.1 t.2.2.2.2.2.2)=kxg2 N wl e K (qQU N wl e t):=by
 refine (wlg2 K N wl e (N + 10) t).trans ?_;unfold qJB at hg;unfold qQU;cases h:qX (dcg2 wl e) (N + 10) t with
 | none=>rw [h] at hg; cases hg
 | some y=>rfl
theorem okg2 (N wl:Nat) (e:Nat→Int):∀ p S,qY [([0,1,0,0,1,0,0,1,0,1,1,1,1,1],sumF (fun t:(Int × Int × Nat × Nat × (Nat→List PV) × Nat × (Nat→List PV))=>(hg2 N wl e t.1 t.2.1 t.2.2.1 t.2.2.2.1 t.2.2.2.2.1 t.2.2.2.2.2.1 t.2.2.2.2.2.2)) (fun σ=>(slI σ 7,slI σ 8,(bkC σ 11 1).toNat,rgN σ 25,rgF σ 25,rgN σ 59,rgF σ 59)) (fun t K=>(bif qJB N wl e t then kxg2 N wl e K (qQU N wl e t) else none)))] p=some S→kV (N + 10) (cxS Tf (org0 N wl e) (N + 10) 11 (ntmF Tf 11)) (qZ Tf 11 p) S:=fun p S hp=>by
 refine qV (L:=qZ Tf 11) (l:=[([0,1,0,0,1,0,0,1,0,1,1,1,1,1],sumF (fun t:(Int × Int × Nat × Nat × (Nat→List PV) × Nat × (Nat→List PV))=>(hg2 N wl e t.1 t.2.1 t.2.2.1 t.2.2.2.1 t.2.2.2.2.1 t.2.2.2.2.2.1 t.2.2.2.2.2.2)) (fun σ=>(slI σ 7,slI σ 8,(bkC σ 11 1).toNat,rgN σ 25,rgF σ 25,rgN σ 59,rgF σ 59)) (fun t K=>(bif qJB N wl e t then kxg2 N wl e K (qQU N wl e t) else none)))]) ⟨?_,trivial⟩ p S hp;dsimp only;refine yV (T:=Tf) (o:=(org0 N wl e)) (f:=11) (LO:=qY []) (p:=[0,1,0,0,1,0,0,1,0,1,1,1,1,1]) kZ ?_;intro t K r hr;obtain ⟨hg,hr⟩:=qQ hr
 skip
 exact (lwg2 K N wl e t hg).trans hr
noncomputable def hg1 (N wl:Nat) (e:Nat→Int) (x:Int) (m2:Nat) (pn:Nat) (pf:Nat→List PV) (rn:Nat) (f:Nat→List PV):St:=⟨[(2,.p 2 0),(3,.p 11 0),(4,.p 4 0),(5,.v (.n .i64 (vYX .i64 (2 + (nxV e wl 0 8))))),(7,.v (.n .i64 x))],[(2,.blk [.nl,.nl]),(4,.blk [.o 25,.o 59]),(11,.blk [.v (.lf wl (fQ e)),.v (.n .i64 (m2:Int))]),(25,.reg 26 1 (.fo pn pf)),(59,.reg 66 12 (.fo rn f))]⟩
set_option maxRecDepth 100000 in
theorem rdg1 (G:St→Option (Ret × Mem)) (K:Cont) (N wl:Nat) (e:Nat→Int) (x:Int) (m2:Nat) (pn:Nat) (pf:Nat→List PV) (rn:Nat) (f:Nat→List PV):yX (N + 10) (cxS Tf (org0 N wl e) (N + 10) 11 (ntmF Tf 11)) (evX Tf (org0 N wl e) (N + 10) 11 (ntmF Tf 11)) (qY [([0,1,0,0,1,0,0,1,0,1,1,1,1,1],sumF (fun t:(Int × Int × Nat × Nat × (Nat→List PV) × Nat × (Nat→List PV))=>(hg2 N wl e t.1 t.2.1 t.2.2.1 t.2.2.2.1 t.2.2.2.2.1 t.2.2.2.2.2.1 t.2.2.2.2.2.2)) (fun σ=>(slI σ 7,slI σ 8,(bkC σ 11 1).toNat,rgN σ 25,rgF σ 25,rgN σ 59,rgF σ 59)) (fun t K=>(bif qJB N wl e t then kxg2 N wl e K (qQU N wl e t) else none)))]) (qZ Tf 11 [0,1,0,1,1,1,1,1]) [0,1,0,1,1,1,1,1] (Tf.hint 11 (qJ (qZ Tf 11 [0,1,0,1,1,1,1,1]))) K G (hg1 N wl e x m2 pn pf rn f) =
 (bif (decide (x < (vYX .i64 (2 + (nxV e wl 0 8))))) then (bif (gSt (hg2 N wl e x (vYX .i64 (x + 1)) m2 pn pf rn f) (hg2 N wl e x (vYX .i64 (x + 1)) m2 pn pf rn f)) then (bif (qJB N wl e (x,(vYX .i64 (x + 1)),m2,pn,pf,rn,f)) then (bif (Nat.beq (qQU N wl e (x,(vYX .i64 (x + 1)),m2,pn,pf,rn,f)).1 0) then (G (hg1 N wl e (vYX .i64 ((qQU N wl e (x,(vYX .i64 (x + 1)),m2,pn,pf,rn,f)).2.1 + 1)) ((qQU N wl e (x,(vYX .i64 (x + 1)),m2,pn,pf,rn,f)).2.2.2.1) (qQU N wl e (x,(vYX .i64 (x + 1)),m2,pn,pf,rn,f)).2.2.2.2.1 (qQU N wl e (x,(vYX .i64 (x + 1)),m2,pn,pf,rn,f)).2.2.2.2.2.1 (qQU N wl e (x,(vYX .i64 (x + 1)),m2,pn,pf,rn,f)).2.2.2.2.2.2.1 (qQU N wl e (x,(vYX .i64 (x + 1)),m2,pn,pf,rn,f)).2.2.2.2.2.2.2))
 else none)
 else none)
 else none)
 else (K (.exit 2) ⟨[(2,.p 2 0),(4,.p 4 0)],[(2,.blk [.nl,.nl]),(4,.blk [.o 25,.o 59]),(25,.reg 26 1 (.fo pn pf)),(59,.reg 66 12 (.fo rn f))]⟩)):=by kernel_rfl
noncomputable def dcg1 (N wl:Nat) (e:Nat→Int):(Int × Nat × Nat × (Nat→List PV) × Nat × (Nat→List PV))→(Int × Nat × Nat × (Nat→List PV) × Nat × (Nat→List PV)) ⊕ (Nat × Int × Nat × Nat × (Nat→List PV) × Nat × (Nat→List PV)):=fun t=>match t with | (x,m2,pn,pf,rn,f)=>(bif (decide (x < (vYX .i64 (2 + (nxV e wl 0 8))))) then (bif (gSt (hg2 N wl e x (vYX .i64 (x + 1)) m2 pn pf rn f) (hg2 N wl e x (vYX .i64 (x + 1)) m2 pn pf rn f)) then (bif (qJB N wl e (x,(vYX .i64 (x + 1)),m2,pn,pf,rn,f)) then (bif (Nat.beq (qQU N wl e (x,(vYX .i64 (x + 1)),m2,pn,pf,rn,f)).1 0) then (.inl ((vYX .i64 ((qQU N wl e (x,(vYX .i64 (x + 1)),m2,pn,pf,rn,f)).2.1 + 1)),((qQU N wl e (x,(vYX .i64 (x + 1)),m2,pn,pf,rn,f)).2.2.2.1),(qQU N wl e (x,(vYX .i64 (x + 1)),m2,pn,pf,rn,f)).2.2.2.2.1,(qQU N wl e (x,(vYX .i64 (x + 1)),m2,pn,pf,rn,f)).2.2.2.2.2.1,(qQU N wl e (x,(vYX .i64 (x + 1)),m2,pn,pf,rn,f)).2.2.2.2.2.2.1,(qQU N wl e (x,(vYX .i64 (x + 1)),m2,pn,pf,rn,f)).2.2.2.2.2.2.2)) else (.inr (1,(x,m2,pn,pf,rn,f)))) else (.inr (1,(x,m2,pn,pf,rn,f)))) else (.inr (1,(x,m2,pn,pf,rn,f)))) else (.inr (0,(x,m2,pn,pf,rn,f))))
noncomputable def kxg1 (N wl:Nat) (e:Nat→Int) (K:Cont) (w9:Nat × Int × Nat × Nat × (Nat→List PV) × Nat × (Nat→List PV)):Option (Ret × Mem):=bif Nat.beq w9.1 0 then (K (.exit 2) ⟨[(2,.p 2 0),(4,.p 4 0)],[(2,.blk [.nl,.nl]),(4,.blk [.o 25,.o 59]),(25,.reg 26 1 (.fo w9.2.2.2.1 w9.2.2.2.2.1)),(59,.reg 66 12 (.fo w9.2.2.2.2.2.1 w9.2.2.2.2.2.2))]⟩) else none
theorem wlg1 (K:Cont) (N wl:Nat) (e:Nat→Int):∀ n9 (t:(Int × Nat × Nat × (Nat→List PV) × Nat × (Nat→List PV))),LFX (N + 10) (cxS Tf (org0 N wl e) (N + 10) 11 (ntmF Tf 11)) (evX Tf (org0 N wl e) (N + 10) 11 (ntmF Tf 11)) (qY [([0,1,0,0,1,0,0,1,0,1,1,1,1,1],sumF (fun t:(Int × Int × Nat × Nat × (Nat→List PV) × Nat × (Nat→List PV))=>(hg2 N wl e t.1 t.2.1 t.2.2.1 t.2.2.2.1 t.2.2.2.2.1 t.2.2.2.2.2.1 t.2.2.2.2.2.2)) (fun σ=>(slI σ 7,slI σ 8,(bkC σ 11 1).toNat,rgN σ 25,rgF σ 25,rgN σ 59,rgF σ 59)) (fun t K=>(bif qJB N wl e t then kxg2 N wl e K (qQU N wl e t) else none)))]) (qZ Tf 11 [0,1,0,1,1,1,1,1]) [0,1,0,1,1,1,1,1] (Tf.hint 11 (qJ (qZ Tf 11 [0,1,0,1,1,1,1,1]))) K n9 (hg1 N wl e t.1 t.2.1 t.2.2.1 t.2.2.2.1 t.2.2.2.2.1 t.2.2.2.2.2)=(qX (dcg1 N wl e) n9 t).bind (kxg1 N wl e K):=fun n9 t=>by
 refine qQY (L:=LFX (N + 10) (cxS Tf (org0 N wl e) (N + 10) 11 (ntmF Tf 11)) (evX Tf (org0 N wl e) (N + 10) 11 (ntmF Tf 11)) (qY [([0,1,0,0,1,0,0,1,0,1,1,1,1,1],sumF (fun t:(Int × Int × Nat × Nat × (Nat→List PV) × Nat × (Nat→List PV))=>(hg2 N wl e t.1 t.2.1 t.2.2.1 t.2.2.2.1 t.2.2.2.2.1 t.2.2.2.2.2.1 t.2.2.2.2.2.2)) (fun σ=>(slI σ 7,slI σ 8,(bkC σ 11 1).toNat,rgN σ 25,rgF σ 25,rgN σ 59,rgF σ 59)) (fun t K=>(bif qJB N wl e t then kxg2 N wl e K (qQU N wl e t) else none)))]) (qZ Tf 11 [0,1,0,1,1,1,1,1]) [0,1,0,1,1,1,1,1] (Tf.hint 11 (qJ (qZ Tf 11 [0,1,0,1,1,1,1,1]))) K) (stp:=yX (N + 10) (cxS Tf (org0 N wl e) (N + 10) 11 (ntmF Tf 11)) (evX Tf (org0 N wl e) (N + 10) 11 (ntmF Tf 11)) (qY [([0,1,0,0,1,0,0,1,0,1,1,1,1,1],sumF (fun t:(Int × Int × Nat × Nat × (Nat→List PV) × Nat × (Nat→List PV))=>(hg2 N wl e t.1 t.2.1 t.2.2.1 t.2.2.2.1 t.2.2.2.2.1 t.2.2.2.2.2.1 t.2.2.2.2.2.2)) (fun σ=>(slI σ 7,slI σ 8,(bkC σ 11 1).toNat,rgN σ 25,rgF σ 25,rgN σ 59,rgF σ 59)) (fun t K=>(bif qJB N wl e t then kxg2 N wl e K (qQU N wl e t) else none)))]) (qZ Tf 11 [0,1,0,1,1,1,1,1]) [0,1,0,1,1,1,1,1] (Tf.hint 11 (qJ (qZ Tf 11 [0,1,0,1,1,1,1,1]))) K) (fun _ _=>rfl) (fun _=>rfl) (fun t=>hg1 N wl e t.1 t.2.1 t.2.2.1 t.2.2.2.1 t.2.2.2.2.1 t.2.2.2.2.2) (fun _=>True) (dcg1 N wl e) (kxg1 N wl e K) (fun G t _ => ?_) (fun _ _ _ _=>trivial) n9 t trivial;obtain ⟨x,m2,pn,pf,rn,f⟩:=t;refine (rdg1 G K N wl e x m2 pn pf rn f).trans ?_;dsimp only [dcg1];cases (decide (x < (vYX .i64 (2 + (nxV e wl 0 8)))))
 ·rfl
 ·cases (gSt (hg2 N wl e x (vYX .i64 (x + 1)) m2 pn pf rn f) (hg2 N wl e x (vYX .i64 (x + 1)) m2 pn pf rn f))
  ·rfl
  ·cases (qJB N wl e (x,(vYX .i64 (x + 1)),m2,pn,pf,rn,f))
   ·rfl
   ·cases (Nat.beq (qQU N wl e (x,(vYX .i64 (x + 1)),m2,pn,pf,rn,f)).1 0)
    ·rfl
    ·rfl
noncomputable def zHJ (N:Nat) (N wl:Nat) (e:Nat→Int) (t:(Int × Nat × Nat × (Nat→List PV) × Nat × (Nat→List PV))):Bool:=(qX (dcg1 N wl e) (N + 10) t).isSome
noncomputable def qGH (N:Nat) (N wl:Nat) (e:Nat→Int) (t:(Int × Nat × Nat × (Nat→List PV) × Nat × (Nat→List PV))):Nat × Int × Nat × Nat × (Nat→List PV) × Nat × (Nat→List PV):=(qX (dcg1 N wl e) (N + 10) t).getD (99,t)
theorem lwg1 (K:Cont) (N wl:Nat) (e:Nat→Int) (t:(Int × Nat × Nat × (Nat→List PV) × Nat × (Nat→List PV))) (hg:zHJ N N wl e t=true):LFX (N + 10) (cxS Tf (org0 N wl e) (N + 10) 11 (ntmF Tf 11)) (evX Tf (org0 N wl e) (N + 10) 11 (ntmF Tf 11)) (qY [([0,1,0,0,1,0,0,1,0,1,1,1,1,1],sumF (fun t:(Int × Int × Nat × Nat × (Nat→List PV) × Nat × (Nat→List PV))=>(hg2 N wl e t.1 t.2.1 t.2.2.1 t.2.2.2.1 t.2.2.2.2.1 t.2.2.2.2.2.1 t.2.2.2.2.2.2)) (fun σ=>(slI σ 7,slI σ 8,(bkC σ 11 1).toNat,rgN σ 25,rgF σ 25,rgN σ 59,rgF σ 59)) (fun t K=>(bif qJB N wl e t then kxg2 N wl e K (qQU N wl e t) else none)))]) (qZ Tf 11 [0,1,0,1,1,1,1,1]) [0,1,0,1,1,1,1,1] (Tf.hint 11 (qJ (qZ Tf 11 [0,1,0,1,1,1,1,1]))) K (N + 10) (hg1 N wl e t.1 t.2.1 t.2.2.1 t.2.2.2.1 t.2.2.2.2.1 t.2.2.2.2.2)=kxg1 N wl e K (qGH N N wl e t):=by
 refine (wlg1 K N wl e (N + 10) t).trans ?_;unfold zHJ at hg;unfold qGH;cases h:qX (dcg1 N wl e) (N + 10) t with
 | none=>rw [h] at hg; cases hg
 | some y=>rfl
def zP:Nat→List PV:=fun _=>[.zs]
def zE:Nat→List PV:=fun _=>[.n .i64 0,.n .i64 0,.n .i64 0,.n .i64 0,.n .i64 0,.zs,.n .i64 0,.n .i64 0,.zs,.n .i64 0,.zs,.zs]
theorem jVB (x:Int):0≤gsF x∧gsF x≤3:=by
 unfold gsF;cases decide (x=0) <;> cases decide (x - 1=0) <;> cases decide (x - 1 - 1=0) <;> cases decide (x - 1 - 1 - 1=0) <;> cases decide (x - 1 - 1 - 1 - 1=0) <;> cases decide (x - 1 - 1 - 1 - 1 - 1=0) <;> cases decide (x - 1 - 1 - 1 - 1 - 1 - 1=0) <;> simp only [vYQ,vYZ] <;> omega
def pusR (f:Nat→List PV) (rn:Nat) (c:List PV):Nat→List PV:=fun v=>kY (Nat.beq v rn) c (f v)
theorem jJW (f:Nat→List PV) (rn:Nat) (c:List PV):pusR f rn c rn=c:=by
 unfold pusR; rw [Nat.beq_refl,qUE]
theorem yHD {f:Nat→List PV} {rn v:Nat} {c:List PV} (h:v ≠ rn):pusR f rn c v=f v:=by
 have hb:Nat.beq v rn=false:=by
  cases hb:Nat.beq v rn with
  | false=>rfl
  | true=>exact absurd (vQU hb) h
 unfold pusR;rw [hb,qUF]
def LX (a b c d:Int):Prop:=a < c ∨ (a=c∧b < d)
structure GI (n x y rn:Nat) (f:Nat→List PV) (ed:Nat→Ed):Prop where
 row:∀ v,v < rn→f v=edP (ed v)
 ok:∀ v,v < rn→0≤(ed v).u∧(ed v).u < (ed v).v∧(ed v).v < (n:Int)∧0≤(ed v).c∧(ed v).c≤6
 so:∀ v,v + 1 < rn→LX (ed v).u (ed v).v (ed (v + 1)).u (ed (v + 1)).v
 la:∀ v,v < rn→LX (ed v).u (ed v).v x y
def pusE (ed:Nat→Ed) (rn:Nat) (c:Ed):Nat→Ed:=fun v=>if v=rn then c else ed v
theorem GI.push {n x y rn:Nat} {f:Nat→List PV} {ed:Nat→Ed} (h:GI n x y rn f ed) {c:Ed} (hu:c.u=x) (hv:c.v=y) (_:x < y) (_:y < n) (_:0≤c.c∧c.c≤6):GI n x (y + 1) (rn + 1) (pusR f rn (edP c)) (pusE ed rn c) where
 row:=fun v hv=>by
  by_cases e:v=rn
  ·subst e; rw [jJW]; unfold pusE; rw [if_pos rfl]
  ·rw [yHD e,h.row v (by omega)]; unfold pusE; rw [if_neg e]
 ok:=fun v hl=>by
  unfold pusE;by_cases e:v=rn
  ·rw [if_pos e]; omega
  ·rw [if_neg e]; exact h.ok v (by omega)
 so:=fun v hl=>by
  unfold pusE;rw [if_neg (show v ≠ rn by omega)];by_cases e:v + 1=rn
  ·rw [if_pos e,hu,hv]; exact h.la v (by omega)
  ·rw [if_neg e]; exact h.so v (by omega)
 la:=fun v hl=>by
  unfold pusE;by_cases e:v=rn
  ·rw [if_pos e]; unfold LX; omega
  ·rw [if_neg e]
   have:=h.la v (by omega)
   unfold LX at this ⊢; omega
theorem GI.skip {n x y rn:Nat} {f:Nat→List PV} {ed:Nat→Ed} (h:GI n x y rn f ed):GI n x (y + 1) rn f ed:=⟨h.row,h.ok,h.so,fun v hl=>by
 have:=h.la v hl
 unfold LX at this ⊢; omega⟩
theorem GI.next {n x rn:Nat} {f:Nat→List PV} {ed:Nat→Ed} (h:GI n x n rn f ed) (y:Nat):GI n (x + 1) y rn f ed:=⟨h.row,h.ok,h.so,fun v hl=>by
 have h1:=h.la v hl;have h2:=h.ok v hl;unfold LX at h1 ⊢; omega⟩
section
variable {wl:Nat} {e:Nat→Int} {n:Nat} (hn:vYX .i64 (2 + nxV e wl 0 8)=(n:Int)) (h9:n≤9)
include hn h9
theorem jUZ:∀ (d x:Nat) (f:Nat→List PV) (M:Nat),x + d=n→d < M→∃ f',qX (dcg0 wl e) M ((x:Int),x,f)=some (0,(n:Int),n,f')
 | _,_,_,0,_,h=>by omega
 | 0,x,f,M + 1,hd,_=>by
  obtain rfl:x=n:=by omega
  refine ⟨f,?_⟩;rw [qX];dsimp only [dcg0];rw [hn,vYY (by omega)]; rfl
 | d + 1,x,f,M + 1,hd,hM=>by
  rw [qX];dsimp only [dcg0];rw [hn,vYJ (show (x:Int) < (n:Int) by omega),qQB (show x < 1000000 by omega),vYJ (show x + 1≤1000000 by omega)];exact jUZ d (x + 1) _ M (by omega) (by omega)
end
section
variable {wl:Nat} {e:Nat→Int} (hw:wl≤9223372036854775807) {n:Nat} (hn:vYX .i64 (2 + nxV e wl 0 8)=(n:Int)) (h9:n≤9)
include hw hn h9
theorem jZB {x pn:Nat} {pf:Nat→List PV}:∀ (d y m2 rn:Nat) (f:Nat→List PV) (ed:Nat→Ed) (M:Nat),y + d=n→d < M→x < y→m2≤wl→rn≤9 * x + y→rn≤1000→GI n x y rn f ed→∃ m' rn' f' ed',qX (dcg2 wl e) M ((x:Int),(y:Int),m2,pn,pf,rn,f)=some (0,(x:Int),(n:Int),m',pn,pf,rn',f')∧m'≤wl∧rn'≤9 * x + n∧GI n x n rn' f' ed'
 | _,_,_,_,_,_,0,_,h,_,_,_,_,_=>by omega
 | 0,y,m2,rn,f,ed,M + 1,hd,_,hx,hm,hr,_,hI=>by
  obtain rfl:y=n:=by omega
  refine ⟨m2,rn,f,ed,?_,hm,hr,hI⟩;rw [qX];dsimp only [dcg2];rw [hn,vYY (by omega)]; rfl
 | d + 1,y,m2,rn,f,ed,M + 1,hd,hM,hx,hm,hr,hr1,hI=>by
  rw [qX];dsimp only [dcg2];rw [hn,vYJ (show (y:Int) < (n:Int) by omega),zKX (C:=cnx) (t:=(wl,m2,e,5)) ⟨hm,hw,by decide,by decide⟩,qQB (show y < 1000000 by omega),vYQ,vYQ];by_cases hc:nxV e wl m2 5 < 2
  ·have b8:=jZK (e:=e) (w:=wl) (m:=mA wl m2 2) (k:=8) (by decide);have b7:=jZK (e:=e) (w:=wl) (m:=mA wl m2 1) (k:=7) (by decide);have i8:inB (nxV e wl (mA wl m2 2) 8) 8=true:=by unfold inB; rw [vYJ b8.1,vYJ (by omega)]; rfl
   rw [vYJ hc,zKX (C:=cnx) (t:=(wl,mA wl m2 1,e,7)) ⟨yYY hm 1,hw,by decide,by decide⟩,zKX (C:=cnx) (t:=(wl,mA wl m2 2,e,8)) ⟨yYY hm 2,hw,by decide,by decide⟩,i8,uX (C:=ccl) (t:=gsF _) (jVB _),vYJ (show rn + 1≤1000000 by omega)];simp only [vYQ,Bool.and_true];have hp:=hI.push (c:=⟨x,y,nxV e wl (mA wl m2 1) 7,gsF (nxV e wl (mA wl m2 2) 8),clK (gsF (nxV e wl (mA wl m2 2) 8)),clD (gsF (nxV e wl (mA wl m2 2) 8)),0,0,clA (gsF (nxV e wl (mA wl m2 2) 8)),clF,0,clG,clB (gsF (nxV e wl (mA wl m2 2) 8)),clG,clB (gsF (nxV e wl (mA wl m2 2) 8)),clG⟩) rfl rfl hx (by omega) (by dsimp only; omega);exact jZB d (y + 1) (mA wl m2 3) (rn + 1) _ _ M (by omega) (by omega) (by omega) (yYY hm 3) (by omega) (by omega) hp
  ·rw [vYY hc,vYZ];exact jZB d (y + 1) (mA wl m2 1) rn f ed M (by omega) (by omega) (by omega) (yYY hm 1) (by omega) hr1 hI.skip
theorem jUQ {N pn:Nat} {pf:Nat→List PV} (hN:10≤N):∀ (d x m2 rn:Nat) (f:Nat→List PV) (ed:Nat→Ed) (M:Nat),x + d=n→d < M→m2≤wl→rn≤9 * x→GI n x (x + 1) rn f ed→∃ m' rn' f' ed',qX (dcg1 N wl e) M ((x:Int),m2,pn,pf,rn,f)=some (0,(n:Int),m',pn,pf,rn',f')∧rn'≤9 * n∧GI n n (n + 1) rn' f' ed'
 | _,_,_,_,_,_,0,_,h,_,_,_=>by omega
 | 0,x,m2,rn,f,ed,M + 1,hd,_,hm,hr,hI=>by
  obtain rfl:x=n:=by omega
  refine ⟨m2,rn,f,ed,?_,hr,hI⟩;rw [qX];dsimp only [dcg1];rw [hn,vYY (by omega)]; rfl
 | d + 1,x,m2,rn,f,ed,M + 1,hd,hM,hm,hr,hI=>by
  obtain ⟨m',rn',f',ed',q1,q2,q3,q4⟩:=jZB hw hn h9 (x:=x) (pn:=pn) (pf:=pf) (n - (x + 1)) (x + 1) m2 rn f ed (N + 10) (by omega) (by omega) (by omega) hm (by omega) (by omega) hI;have o1:qJB N wl e ((x:Int),((x + 1:Nat):Int),m2,pn,pf,rn,f)=true:=by unfold qJB; rw [q1]; rfl
  have o2:qQU N wl e ((x:Int),((x + 1:Nat):Int),m2,pn,pf,rn,f)=(0,(x:Int),(n:Int),m',pn,pf,rn',f'):=by unfold qQU; rw [q1]; rfl
  rw [qX];dsimp only [dcg1];rw [hn,vYJ (show (x:Int) < (n:Int) by omega),yY,qQB (show x < 1000000 by omega),o1,o2];simp only [vYQ,qQB (show x < 1000000 by omega)];exact jUQ hN d (x + 1) m' rn' f' ed' M (by omega) (by omega) q2 (by omega) (q4.next (x + 1 + 1))
end
noncomputable def yWJ (N wl:Nat) (e:Nat→Int):List (List Nat × yK):=[([0,1,0,1,1,1,1],sumF (fun t:(Int × Nat × (Nat→List PV))=>(hg0 N wl e t.1 t.2.1 t.2.2)) (fun σ=>(slI σ 6,rgN σ 25,rgF σ 25)) (fun t K=>(bif zHK N wl e t then kxg0 N wl e K (qZK N wl e t) else none))),([0,1,0,1,1,1,1,1],sumF (fun t:(Int × Nat × Nat × (Nat→List PV) × Nat × (Nat→List PV))=>(hg1 N wl e t.1 t.2.1 t.2.2.1 t.2.2.2.1 t.2.2.2.2.1 t.2.2.2.2.2)) (fun σ=>(slI σ 7,(bkC σ 11 1).toNat,rgN σ 25,rgF σ 25,rgN σ 59,rgF σ 59)) (fun t K=>(bif zHJ N N wl e t then kxg1 N wl e K (qGH N N wl e t) else none)))]
set_option maxRecDepth 100000 in
theorem jWY (N wl:Nat) (e:Nat→Int):qZV Tf (org0 N wl e) (qY (yWJ N wl e)) (N + 10) 11 [.lf wl (fQ e)] =
 (bif (gB1 cnx hnx enx (wl,0,e,8)) then (bif (gSt (hg0 N wl e 0 0 zP) (hg0 N wl e 0 0 zP)) then (bif (zHK N wl e (0,0,zP)) then (bif (Nat.beq (qZK N wl e (0,0,zP)).1 0) then (bif (gSt (hg1 N wl e 0 (mA wl 0 1) (qZK N wl e (0,0,zP)).2.2.1 (qZK N wl e (0,0,zP)).2.2.2 0 zE) (hg1 N wl e 0 (mA wl 0 1) (qZK N wl e (0,0,zP)).2.2.1 (qZK N wl e (0,0,zP)).2.2.2 0 zE)) then (bif (zHJ N N wl e (0,(mA wl 0 1),(qZK N wl e (0,0,zP)).2.2.1,(qZK N wl e (0,0,zP)).2.2.2,0,zE)) then (bif (Nat.beq (qGH N N wl e (0,(mA wl 0 1),(qZK N wl e (0,0,zP)).2.2.1,(qZK N wl e (0,0,zP)).2.2.2,0,zE)).1 0) then some (.v (.a [.lf (qGH N N wl e (0,(mA wl 0 1),(qZK N wl e (0,0,zP)).2.2.1,(qZK N wl e (0,0,zP)).2.2.2,0,zE)).2.2.2.1 (qGH N N wl e (0,(mA wl 0 1),(qZK N wl e (0,0,zP)).2.2.1,(qZK N wl e (0,0,zP)).2.2.2,0,zE)).2.2.2.2.1,.lf (qGH N N wl e (0,(mA wl 0 1),(qZK N wl e (0,0,zP)).2.2.1,(qZK N wl e (0,0,zP)).2.2.2,0,zE)).2.2.2.2.2.1 (qGH N N wl e (0,(mA wl 0 1),(qZK N wl e (0,0,zP)).2.2.1,(qZK N wl e (0,0,zP)).2.2.2,0,zE)).2.2.2.2.2.2]),[])
 else none)
 else none)
 else none)
 else none)
 else none)
 else none)
 else none):=by kernel_rfl
theorem yHJ (N wl:Nat) (e:Nat→Int) {n m3 en:Nat} {pf ef:Nat→List PV} (hw:wl≤9223372036854775807) (h0:qX (dcg0 wl e) (N + 10) (0,0,zP)=some (0,(n:Int),n,pf)) (h1:qX (dcg1 N wl e) (N + 10) (0,mA wl 0 1,n,pf,0,zE)=some (0,(n:Int),m3,n,pf,en,ef)):zH Try.prog 11 [.lf wl (fQ e)] (.v (.a [.lf n pf,.lf en ef])):=by
 refine zJ (N:=(N + 10)) (LO:=qY (yWJ N wl e)) kJ jJ (kX (l:=[(31,o_cl)]) (m:=[(30,o_nx)]) ⟨jVQ,trivial⟩ ⟨jWB,trivial⟩) (fun p S hp => ?_) ?_
 ·refine qV (L:=qZ Tf 11) (l:=(yWJ N wl e)) (show AllP _ (yWJ N wl e) from ⟨?_,?_,trivial⟩) p S hp
  ·dsimp only;refine yV (T:=Tf) (o:=(org0 N wl e)) (f:=11) (LO:=qY []) (p:=[0,1,0,1,1,1,1]) kZ ?_;intro t K r hr;obtain ⟨hg,hr⟩:=qQ hr
   skip
   exact (lwg0 K N wl e t hg).trans hr
  ·dsimp only;refine yV (T:=Tf) (o:=(org0 N wl e)) (f:=11) (LO:=(qY [([0,1,0,0,1,0,0,1,0,1,1,1,1,1],sumF (fun t:(Int × Int × Nat × Nat × (Nat→List PV) × Nat × (Nat→List PV))=>(hg2 N wl e t.1 t.2.1 t.2.2.1 t.2.2.2.1 t.2.2.2.2.1 t.2.2.2.2.2.1 t.2.2.2.2.2.2)) (fun σ=>(slI σ 7,slI σ 8,(bkC σ 11 1).toNat,rgN σ 25,rgF σ 25,rgN σ 59,rgF σ 59)) (fun t K=>(bif qJB N wl e t then kxg2 N wl e K (qQU N wl e t) else none)))])) (p:=[0,1,0,1,1,1,1,1]) (okg2 N wl e) ?_;intro t K r hr;obtain ⟨hg,hr⟩:=qQ hr
   skip
   exact (lwg1 K N wl e t hg).trans hr
 ·refine (jWY N wl e).trans ?_;have o1:zHK N wl e (0,0,zP)=true:=by unfold zHK; rw [h0]; rfl
  have o2:qZK N wl e (0,0,zP)=(0,(n:Int),n,pf):=by unfold qZK; rw [h0]; rfl
  have o3:zHJ N N wl e (0,mA wl 0 1,n,pf,0,zE)=true:=by unfold zHJ; rw [h1]; rfl
  have o4:qGH N N wl e (0,mA wl 0 1,n,pf,0,zE)=(0,(n:Int),m3,n,pf,en,ef):=by unfold qGH; rw [h1]; rfl
  rw [zKX (C:=cnx) (t:=(wl,0,e,8)) ⟨Nat.zero_le _,hw,by decide,by decide⟩,yY,o1,o2];simp only [vYQ];rw [yY,o3,o4];rfl
def yQK (g:Gr):Prop:=wfB g=true∧2≤g.np∧g.np≤9∧g.ne≤81∧∀ i,i < g.ne→0≤(g.ed i).c∧(g.ed i).c≤6
theorem jVD (wl:Nat) (e:Nat→Int) (hw:wl≤9223372036854775807):∃ g:Gr,zH Try.prog 11 [.lf wl (fQ e)] (.v (.a (gP g)))∧yQK g:=by
 have b:=jZK (e:=e) (w:=wl) (m:=0) (k:=8) (by decide);obtain ⟨n,hn,h2,h9⟩:∃ n:Nat,vYX .i64 (2 + nxV e wl 0 8)=(n:Int)∧2≤n∧n≤9:=⟨(2 + nxV e wl 0 8).toNat,by rw [yG (by omega)]; omega,by omega,by omega⟩
 obtain ⟨pf,h0⟩:=jUZ hn h9 n 0 zP 30 (by omega) (by omega);obtain ⟨m3,en,ef,ed,h1,hr,hI⟩:=jUQ hw hn h9 (N:=20) (pn:=n) (pf:=pf) (by decide) n 0 (mA wl 0 1) 0 zE (fun _=>unE []) 30 (by omega) (by omega) (yYY (Nat.zero_le _) 1) (by omega) ⟨fun v h=>absurd h (Nat.not_lt_zero v),fun v h=>absurd h (Nat.not_lt_zero v),fun v h=>absurd h (Nat.not_lt_zero _),fun v h=>absurd h (Nat.not_lt_zero v)⟩;have hs:=yHJ 20 wl e hw h0 h1;refine ⟨⟨n,pf,en,ed⟩,qYC (Same.a (xs:=[_,_]) (ys:=[_,_]) ⟨Same.refl _,fun F w v h=>zUG (rows:=(List.range en).map (fE ed)) rfl (zUH (List.map_congr_left fun v hv=>by rw [hI.row v (List.mem_range.1 hv)]; rfl) h),trivial⟩) hs,?_,h2,h9,by show en≤81; omega,fun i hi=>⟨(hI.ok i hi).2.2.2.1,(hI.ok i hi).2.2.2.2⟩⟩;unfold wfB;rw [vYJ (show n≤1024 by omega),vYJ (show en≤8192 by omega),vZW,vZW];refine allN_iff.2 fun i _ hi => ?_
 have hi:i < en:=by have:i < 0 + en:=hi; omega
 have h3:=hI.ok i hi;show okE ⟨n,pf,en,ed⟩ i=true;unfold okE isP cpI;simp only [vQJ,Bool.or_eq_true,Bool.not_eq_true',decide_eq_true_eq,decide_eq_false_iff_not];refine ⟨by omega,by omega,by omega,by omega,by omega,?_⟩;by_cases h4:i=0
 ·exact .inl h4
 ·have h5:=hI.so (i - 1) (by omega);rw [show i - 1 + 1=i by omega] at h5;refine .inr ?_;unfold LX at h5;rcases h5 with h5 | ⟨h5,h6⟩
  ·rw [vYJ h5,vYQ]; omega
  ·rw [vYY (show ¬ (ed (i - 1)).u < (ed i).u by omega),vYY (show ¬ (ed i).u < (ed (i - 1)).u by omega),vYJ h6,vYZ,vYZ,vYQ]; omega
end Go.Proofs.Ytglkkhpdbfacfaa.Cc
namespace Go.Proofs.Ytglkkhpdbfacfaa.Cd
open Go.Rx Rt Go.Sx Go.RowKit Ba Bb Bc Bd Be Bf Bi Bj Bk Bl Bh Bm Bn Bo Bp Bq Br Bs Bt Bu Bv Bw Bx By Bz Ca Cb Cc
noncomputable def oren (g:Gr) (a b:Int):OrS:=orS [(14,o_rn)] []
noncomputable def lsen (g:Gr) (a b:Int):List (List Nat × yK):=[]
set_option maxRecDepth 100000 in
theorem pxen (g:Gr) (a b:Int):qZV Tf (oren g a b) (qY (lsen g a b)) 60 12 [.a (gP g),.n .i64 a,.n .i64 b] =
 (bif (gF1 crn ern (a,(g.np:Int))) then (bif (gF1 crn ern (b,(g.np:Int))) then some (.v (.t [.n .i64 (a % (g.np:Int)),.n .i64 (b % (g.np:Int))]),[])
 else none)
 else none):=by kernel_rfl
theorem jYI (g:Gr) (a b:Int) (_:0 < g.np) (hp:g.np≤100):zH Try.prog 12 [.a (gP g),.n .i64 a,.n .i64 b] (.v (.t [.n .i64 (a % (g.np:Int)),.n .i64 (b % (g.np:Int))])):=by
 refine zJ (N:=60) (LO:=qY (lsen g a b)) kJ jJ (kX (l:=[(14,o_rn)]) (m:=[]) ⟨yZC,trivial⟩ trivial) (fun p S hp => ?_) ?_
 ·refine qV (L:=qZ Tf 12) (l:=(lsen g a b)) (show AllP _ (lsen g a b) from trivial) p S hp
 ·refine (pxen g a b).trans ?_;have hk:0 < (g.np:Int)∧(g.np:Int)≤9223372036854775807:=by omega
  simp only [uX (C:=crn) (t:=(a,(g.np:Int))) hk,uX (C:=crn) (t:=(b,(g.np:Int))) hk,vYQ]
  try rfl
def cck:Gr × Int × Int × Int × Nat × (Nat→Int)→Prop:=fun t=>match t with | (g,_,_,_,_,_)=>g.np≤100∧g.ne≤500
def eck:Gr × Int × Int × Int × Nat × (Nat→Int)→List PV:=fun t=>match t with | (g,a,b,low,n,q)=>[.a (gP g),.n .i64 a,.n .i64 b,.n .i64 low,.lf n (fQ q)]
noncomputable def rck:Gr × Int × Int × Int × Nat × (Nat→Int)→Ret:=fun t=>match t with | (g,a,b,low,n,q)=>.v (.b (cbB g a b low n q))
def dck:List PV→Gr × Int × Int × Int × Nat × (Nat→Int):=fun ps=>match ps with
 | [.a [.lf np pt,.lf ne ed],.n _ a,.n _ b,.n _ l,.lf n f]=>(⟨np,pt,ne,unFE ed⟩,a,b,l,n,unFQ f)
 | _=>(⟨0,fun _=>[],0,fun _=>unE []⟩,0,0,0,0,fun _=>0)
noncomputable def o_ck:List PV→Option (Bool × Ret):=o_fm dck cck eck rck
theorem jKV:qZC Try.prog 19 o_ck:=qJJ fun t h=>by
 obtain ⟨g,a,b,low,n,q⟩:=t;exact jJY g a b low n q h.1 h.2
end Go.Proofs.Ytglkkhpdbfacfaa.Cd
namespace Go.Proofs.Ytglkkhpdbfacfaa.Ce
end Go.Proofs.Ytglkkhpdbfacfaa.Ce
namespace Go.Rx
open Go.RowKit Go.Sx Go.ChangeShapes Go.WideShapes
section
variable {P:Program} {W:World} {H:Type} {enc:TypeId × Value→H}
def zWK (W:World) (v:Value) (L:List Int):Prop:=RP (fun k=>k < W.heap.size) W (zXV L) v∧L.length≤9223372036854775807∧∀ x ∈ L,In64 x
theorem yZA {t e:TypeId} {v:Value} {d:DataW H} {p:List MemPlace} (ht:P.underlying t=some (.slice e)) (he:P.underlying e=some (.int .i64)) (hc:P.cellsOf e=1)
  {r:Reach} {base:Nat} (hv:Value.okWide P W r base t v) (h:DataW.Trod enc P W 0 (fun _=>true) true t v d p):∃ L:List Int,zWK W v L:=by
 obtain ⟨a,l,c,rfl⟩:=zWH ht hv;obtain ⟨fuel,h⟩:=h;have h':DataW.trod enc P W 0 (fun _=>true) true fuel t [.slice a l c]=some (d,p):=h;rcases open_ints ht he hc h' with ⟨h1,_⟩ | ⟨a',len,cap,zs,h1,_,hlc,hcap,hz,_,hcell,hwf⟩
 ·simp at h1;obtain ⟨rfl,rfl,rfl⟩:=h1;exact ⟨[],.l0 none 0,by simp,fun x hx=>by cases hx⟩
 ·simp at h1;obtain ⟨rfl,rfl,rfl⟩:=h1;simp only [if_true] at hz;have hlen:(zs.take l).length=l:=by simp; omega
  have hI:IntsAt W W.heap.size (.slice (some a') l c) (zs.take l):=⟨by have:maxLen=9223372036854775807:=rfl; omega,some a',c,by rw [hlen],fun j hj=>by
   rw [hlen] at hj;have h0:=hcell 0 (by omega);have hj':=hcell j (by omega);have hsp:a'.spot=none:=by
    have e:a'.add 0=a':=by simp [Addr.add]
    rw [e] at h0;unfold World.cell? at h0;cases hb:W.heap[a'.block]? with
    | none=>simp [hb] at h0
    | some o=>cases o <;> simp [hb] at h0; exact h0.1
   obtain ⟨bb,off,sp⟩:=a';simp only at hsp;subst hsp;rw [qQZ] at hj';refine ⟨bb,off,rfl,?_,?_⟩
   ·unfold World.cell? at hj';cases hb:W.heap[bb]? with
    | none=>simp [hb] at hj'
    | some o=>exact uU hb
   ·rw [hj'];simp [vZX,vZU,hj]⟩
  refine ⟨zs.take l,?_,hI.1,fun x hx => ?_⟩
  ·have:=zGA (F:=fun k=>k < W.heap.size) (w:=W) (L:=zs.take l) (a:=some a') (c:=c) (by rw [hlen]; exact hI) (by rw [hlen]; exact hlc) fun k hk=>hk
   rw [hlen] at this;exact this
  ·have:=hwf x (List.mem_of_mem_take hx)
   simpa [Lit.wf,IntKind.has,IntKind.min,IntKind.max,IntKind.signed,IntKind.bits,In64] using this
end
end Go.Rx
namespace Go.Proofs.Ytglkkhpdbfacfaa.Cf
open Go.Rx Rt Go.Sx Go.RowKit Go.ChangeShapes Go.WideShapes Ba Bb Bc Bd Be Bf Bi Bj Bk Bl Bh Bm Bn Bo Bp Bq Br Bs Bt Bu Bv Bw Bx By Bz Ca Cb Cc Cd Ce
def shI:List Sh:=[.i .i64]
def shV:List Sh:=[.i .i64,.i .i64,.i .i64]
theorem jVE {α:Type} (a0:α) {n:Nat} {f:Nat→List PV} {R:List PV→α→Prop} (h:∀ j,j < n→∃ a,R (f j) a):∃ g:Nat→α,∀ j,j < n→R (f j) (g j):=by
 have each:∀ j,∃ a:α,j < n→R (f j) a:=fun j=>by
  by_cases hj:j < n
  ·obtain ⟨a,ha⟩:=h j hj; exact ⟨a,fun _=>ha⟩
  ·exact ⟨a0,fun h=>absurd h hj⟩
 obtain ⟨g,hg⟩:=Classical.axiomOfChoice each;exact ⟨g,hg⟩
section
variable {W:World} {H:Type} {enc:TypeId × Value→H} {r:Reach} {base:Nat} {v:Value} {d:DataW H} {p:List MemPlace}
end
end Go.Proofs.Ytglkkhpdbfacfaa.Cf
namespace Go.Proofs.Ytglkkhpdbfacfaa.Ch
open Go.Rx Rt Go.Sx Go.RowKit Ba Bb Bc Bd Be Bf Bi Bj Bk Bl Bh Bm Bn Bo Bp Bq Br Bs Bt Bu Bv Bw Bx By Bz Ca Cb Cc Cd
noncomputable def oric (N:Nat) (g:Gr) (a:Int):OrS:=orS [] []
noncomputable def hic (N:Nat) (g:Gr) (a:Int) (i:Int) (rn:Nat) (f:Nat→Int):St:=⟨[(1,.v (.n .i64 a)),(2,.p 2 0),(5,.o 38),(6,.v (.n .i64 i))],[(2,.blk [.v (.lf g.np g.pt),.v (.lf g.ne (fE g.ed))]),(38,.reg 3 1 (.fo rn (fun v=>[.n .i64 (f v)])))]⟩
set_option maxRecDepth 100000 in
theorem rdic (G:St→Option (Ret × Mem)) (K:Cont) (N:Nat) (g:Gr) (a:Int) (i:Int) (rn:Nat) (f:Nat→Int):yX (N + 10) (cxS Tf (oric N g a) (N + 10) 42 (ntmF Tf 42)) (evX Tf (oric N g a) (N + 10) 42 (ntmF Tf 42)) (qY []) (qZ Tf 42 [0,1,0,1,1]) [0,1,0,1,1] (Tf.hint 42 (qJ (qZ Tf 42 [0,1,0,1,1]))) K G (hic N g a i rn f) =
 (bif (decide (i < (g.ne:Int))) then (bif (inB i g.ne) then (bif (decide (0≤(g.ed (i).toNat).u)) then (bif (decide ((g.ed (i).toNat).u < (g.np:Int))) then (bif (decide (0≤(g.ed (i).toNat).v)) then (bif (decide ((g.ed (i).toNat).v < (g.np:Int))) then (bif (decide ((g.ed (i).toNat).u=a)) then (bif (decide (rn + 1≤1000000)) then (G (hic N g a (vYX .i64 (i + 1)) (rn + 1) (fun v=>(bif (Nat.beq v rn) then i else (f v)))))
 else none)
 else (bif (decide ((g.ed (i).toNat).v=a)) then (bif (decide (rn + 1≤1000000)) then (G (hic N g a (vYX .i64 (i + 1)) (rn + 1) (fun v=>(bif (Nat.beq v rn) then i else (f v)))))
 else none)
 else (G (hic N g a (vYX .i64 (i + 1)) rn (fun v=>(f v))))))
 else (G (hic N g a (vYX .i64 (i + 1)) rn (fun v=>(f v)))))
 else (G (hic N g a (vYX .i64 (i + 1)) rn (fun v=>(f v)))))
 else (G (hic N g a (vYX .i64 (i + 1)) rn (fun v=>(f v)))))
 else (G (hic N g a (vYX .i64 (i + 1)) rn (fun v=>(f v)))))
 else none)
 else (K (.exit 0) ⟨[(5,.o 38)],[(38,.reg 3 1 (.fo rn (fun v=>[.n .i64 (f v)])))]⟩)):=by kernel_rfl
noncomputable def dcic (g:Gr) (a:Int):(Int × Nat × (Nat→Int))→(Int × Nat × (Nat→Int)) ⊕ (Nat × Int × Nat × (Nat→Int)):=fun t=>match t with | (i,rn,f)=>(bif (decide (i < (g.ne:Int))) then (bif (inB i g.ne) then (bif (decide (0≤(g.ed (i).toNat).u)) then (bif (decide ((g.ed (i).toNat).u < (g.np:Int))) then (bif (decide (0≤(g.ed (i).toNat).v)) then (bif (decide ((g.ed (i).toNat).v < (g.np:Int))) then (bif (decide ((g.ed (i).toNat).u=a)) then (bif (decide (rn + 1≤1000000)) then (.inl ((vYX .i64 (i + 1)),(rn + 1),(fun v=>(bif (Nat.beq v rn) then i else (f v))))) else (.inr (1,(i,rn,f)))) else (bif (decide ((g.ed (i).toNat).v=a)) then (bif (decide (rn + 1≤1000000)) then (.inl ((vYX .i64 (i + 1)),(rn + 1),(fun v=>(bif (Nat.beq v rn) then i else (f v))))) else (.inr (1,(i,rn,f)))) else (.inl ((vYX .i64 (i + 1)),rn,(fun v=>(f v)))))) else (.inl ((vYX .i64 (i + 1)),rn,(fun v=>(f v))))) else (.inl ((vYX .i64 (i + 1)),rn,(fun v=>(f v))))) else (.inl ((vYX .i64 (i + 1)),rn,(fun v=>(f v))))) else (.inl ((vYX .i64 (i + 1)),rn,(fun v=>(f v))))) else (.inr (1,(i,rn,f)))) else (.inr (0,(i,rn,f))))
noncomputable def kxic (N:Nat) (g:Gr) (a:Int) (K:Cont) (w9:Nat × Int × Nat × (Nat→Int)):Option (Ret × Mem):=bif Nat.beq w9.1 0 then (K (.exit 0) ⟨[(5,.o 38)],[(38,.reg 3 1 (.fo w9.2.2.1 (fun v=>[.n .i64 (w9.2.2.2 v)])))]⟩) else none
theorem wlic (K:Cont) (N:Nat) (g:Gr) (a:Int):∀ n9 (t:(Int × Nat × (Nat→Int))),LFX (N + 10) (cxS Tf (oric N g a) (N + 10) 42 (ntmF Tf 42)) (evX Tf (oric N g a) (N + 10) 42 (ntmF Tf 42)) (qY []) (qZ Tf 42 [0,1,0,1,1]) [0,1,0,1,1] (Tf.hint 42 (qJ (qZ Tf 42 [0,1,0,1,1]))) K n9 (hic N g a t.1 t.2.1 t.2.2)=(qX (dcic g a) n9 t).bind (kxic N g a K):=fun n9 t=>by
 refine qQY (L:=LFX (N + 10) (cxS Tf (oric N g a) (N + 10) 42 (ntmF Tf 42)) (evX Tf (oric N g a) (N + 10) 42 (ntmF Tf 42)) (qY []) (qZ Tf 42 [0,1,0,1,1]) [0,1,0,1,1] (Tf.hint 42 (qJ (qZ Tf 42 [0,1,0,1,1]))) K) (stp:=yX (N + 10) (cxS Tf (oric N g a) (N + 10) 42 (ntmF Tf 42)) (evX Tf (oric N g a) (N + 10) 42 (ntmF Tf 42)) (qY []) (qZ Tf 42 [0,1,0,1,1]) [0,1,0,1,1] (Tf.hint 42 (qJ (qZ Tf 42 [0,1,0,1,1]))) K) (fun _ _=>rfl) (fun _=>rfl) (fun t=>hic N g a t.1 t.2.1 t.2.2) (fun _=>True) (dcic g a) (kxic N g a K) (fun G t _ => ?_) (fun _ _ _ _=>trivial) n9 t trivial;obtain ⟨i,rn,f⟩:=t;refine (rdic G K N g a i rn f).trans ?_;dsimp only [dcic];cases (decide (i < (g.ne:Int)))
 ·rfl
 ·cases (inB i g.ne)
  ·rfl
  ·cases (decide (0≤(g.ed (i).toNat).u))
   ·rfl
   ·cases (decide ((g.ed (i).toNat).u < (g.np:Int)))
    ·rfl
    ·cases (decide (0≤(g.ed (i).toNat).v))
     ·rfl
     ·cases (decide ((g.ed (i).toNat).v < (g.np:Int)))
      ·rfl
      ·cases (decide ((g.ed (i).toNat).u=a))
       ·cases (decide ((g.ed (i).toNat).v=a))
        ·rfl
        ·cases (decide (rn + 1≤1000000))
         ·rfl
         ·rfl
       ·cases (decide (rn + 1≤1000000))
        ·rfl
        ·rfl
noncomputable def zHY (N:Nat) (g:Gr) (a:Int) (t:(Int × Nat × (Nat→Int))):Bool:=(qX (dcic g a) (N + 10) t).isSome
noncomputable def qVF (N:Nat) (g:Gr) (a:Int) (t:(Int × Nat × (Nat→Int))):Nat × Int × Nat × (Nat→Int):=(qX (dcic g a) (N + 10) t).getD (99,t)
theorem lwic (K:Cont) (N:Nat) (g:Gr) (a:Int) (t:(Int × Nat × (Nat→Int))) (hg:zHY N g a t=true):LFX (N + 10) (cxS Tf (oric N g a) (N + 10) 42 (ntmF Tf 42)) (evX Tf (oric N g a) (N + 10) 42 (ntmF Tf 42)) (qY []) (qZ Tf 42 [0,1,0,1,1]) [0,1,0,1,1] (Tf.hint 42 (qJ (qZ Tf 42 [0,1,0,1,1]))) K (N + 10) (hic N g a t.1 t.2.1 t.2.2)=kxic N g a K (qVF N g a t):=by
 refine (wlic K N g a (N + 10) t).trans ?_;unfold zHY at hg;unfold qVF;cases h:qX (dcic g a) (N + 10) t with
 | none=>rw [h] at hg; cases hg
 | some y=>rfl
def icS (g:Gr) (a:Int) (i:Nat):Bool:=decide ((g.ed i).u=a) || decide ((g.ed i).v=a)
theorem yJL {g:Gr} {a:Int} (hw:wfB g=true) (_:g.ne≤500) {i rn:Nat} (hi:i < g.ne) (_:rn≤i) {f:Nat→Int}:dcic g a ((i:Int),rn,f)=.inl (((i + 1:Nat):Int),bif icS g a i then (rn + 1,setF f rn (i:Int)) else (rn,f)):=by
 obtain ⟨h1,h2,h3,_,_⟩:=uG hw hi;dsimp only [dcic];simp only [toN,vYJ (show (i:Int) < (g.ne:Int) by omega),zV hi,qQB (show i < 1000000 by omega),vYQ,vYJ (show rn + 1≤1000000 by omega),vYJ h1,vYJ (show (g.ed i).u < (g.np:Int) by omega),vYJ (show 0≤(g.ed i).v by omega),vYJ h3,icS];cases decide ((g.ed i).u=a) <;> cases decide ((g.ed i).v=a) <;> rfl
theorem yVY {g:Gr} {a:Int} {s:Nat × (Nat→Int)}:dcic g a ((g.ne:Int),s)=.inr (0,(g.ne:Int),s):=by
 dsimp only [dcic];rw [vYY (by omega)]; rfl
def IcI (g:Gr) (a:Int) (i:Nat) (s:Nat × (Nat→Int)):Prop:=s.1≤i∧∀ j,j < s.1→∃ m:Nat,s.2 j=(m:Int)∧m < g.ne∧((g.ed m).u=a ∨ (g.ed m).v=a)
theorem jVG {g:Gr} {a:Int} (hw:wfB g=true) (hn:g.ne≤500) {N:Nat} (hN:g.ne < N):∃ s:Nat × (Nat→Int),qX (dcic g a) N (0,0,zN)=some (0,(g.ne:Int),s)∧IcI g a g.ne s:=by
 have hq:∀ i s,i < g.ne→IcI g a i s→IcI g a (i + 1) (bif icS g a i then (s.1 + 1,setF s.2 s.1 (i:Int)) else s):=fun i s hi hs=>by
  cases hc:icS g a i with
  | false=>exact ⟨by have:=hs.1; show s.1≤i + 1; omega,hs.2⟩
  | true =>
   refine ⟨by have:=hs.1; show s.1 + 1≤i + 1; omega,fun j hj => ?_⟩;by_cases e:j=s.1
   ·subst e;unfold icS at hc;simp only [Bool.or_eq_true,decide_eq_true_eq] at hc;exact ⟨i,jG ..,hi,hc⟩
   ·rw [vYQ];show ∃ m:Nat,setF s.2 s.1 (i:Int) j=_∧_;rw [zG e];exact hs.2 j (by have:j < s.1 + 1:=hj; omega)
 have h1:=qQX (dec:=dcic g a) (nx:=fun (i:Nat) (s:Nat × (Nat→Int))=>bif icS g a i then (s.1 + 1,setF s.2 s.1 (i:Int)) else s) (Q:=IcI g a) (out:=fun s=>((g.ne:Int),s)) (c:=g.ne) (fun i s hi hs=>by obtain ⟨n,f⟩:=s; exact yJL hw hn hi hs.1) hq (fun s _=>yVY) g.ne 0 N (0,zN) (by omega) hN ⟨Nat.le_refl _,fun j hj=>absurd hj (Nat.not_lt_zero j)⟩;exact ⟨_,h1,qZY (Q:=IcI g a) (c:=g.ne) hq g.ne 0 (0,zN) (by omega) ⟨Nat.le_refl _,fun j hj=>absurd hj (Nat.not_lt_zero j)⟩⟩
noncomputable def icN (g:Gr) (a:Int):Nat:=(qVF NN g a (0,0,zN)).2.2.1
noncomputable def icV (g:Gr) (a:Int):Nat→Int:=(qVF NN g a (0,0,zN)).2.2.2
theorem yYC {g:Gr} (a:Int) (hw:wfB g=true) (hn:g.ne≤500):zHY NN g a (0,0,zN)=true∧(qVF NN g a (0,0,zN)).1=0∧icN g a≤g.ne∧∀ j,j < icN g a→∃ m:Nat,icV g a j=(m:Int)∧m < g.ne∧((g.ed m).u=a ∨ (g.ed m).v=a):=by
 obtain ⟨s,h1,h2⟩:=jVG (g:=g) (a:=a) hw hn (show g.ne < NN + 10 by rw [qGB]; omega);have ho:qVF NN g a (0,0,zN)=(0,(g.ne:Int),s):=by unfold qVF; rw [h1]; rfl
 refine ⟨by unfold zHY; rw [h1]; rfl,by rw [ho],?_,?_⟩
 ·unfold icN; rw [ho]; exact h2.1
 ·unfold icN icV; rw [ho]; exact h2.2
noncomputable def yWY (N:Nat) (g:Gr) (a:Int):List (List Nat × yK):=[([0,1,0,1,1],sumF (fun t:(Int × Nat × (Nat→Int))=>(hic N g a t.1 t.2.1 t.2.2)) (fun σ=>(slI σ 6,rgN σ 38,rgI σ 38 0)) (fun t K=>(bif zHY N g a t then kxic N g a K (qVF N g a t) else none)))]
set_option maxRecDepth 100000 in
theorem jWZ (N:Nat) (g:Gr) (a:Int):qZV Tf (oric N g a) (qY (yWY N g a)) (N + 10) 42 [.a (gP g),.n .i64 a] =
 (bif (gSt (hic N g a 0 0 zN) (hic N g a 0 0 zN)) then (bif (zHY N g a (0,0,zN)) then (bif (Nat.beq (qVF N g a (0,0,zN)).1 0) then some (.ow 3 1 (.fo (qVF N g a (0,0,zN)).2.2.1 (fun v=>[.n .i64 ((qVF N g a (0,0,zN)).2.2.2 v)])),[])
 else none)
 else none)
 else none):=by kernel_rfl
theorem yHY (N:Nat) (g:Gr) (a:Int) (hN:N=NN) (hw:wfB g=true) (hn:g.ne≤500):zH Try.prog 42 [.a (gP g),.n .i64 a] (.ow 3 1 (.fo (icN g a) (fQ (icV g a)))):=by
 refine zJ (N:=(N + 10)) (LO:=qY (yWY N g a)) kJ jJ (kX (l:=[]) (m:=[]) trivial trivial) (fun p S hp => ?_) ?_
 ·refine qV (L:=qZ Tf 42) (l:=(yWY N g a)) (show AllP _ (yWY N g a) from ⟨?_,trivial⟩) p S hp
  ·dsimp only;refine yV (T:=Tf) (o:=(oric N g a)) (f:=42) (LO:=qY []) (p:=[0,1,0,1,1]) kZ ?_;intro t K r hr;obtain ⟨hg,hr⟩:=qQ hr
   skip
   exact (lwic K N g a t hg).trans hr
 ·refine (jWZ N g a).trans ?_;subst hN;obtain ⟨h1,h2,_⟩:=yYC (g:=g) a hw hn;rw [yY,h1,h2];rfl
def cic:Gr × Int→Prop:=fun t=>match t with | (g,_)=>wfB g=true∧g.ne≤500
def eic:Gr × Int→List PV:=fun t=>match t with | (g,a)=>[.a (gP g),.n .i64 a]
noncomputable def ric:Gr × Int→Ret:=fun t=>match t with | (g,a)=>.ow 3 1 (.fo (icN g a) (fQ (icV g a)))
def dic:List PV→Gr × Int:=fun ps=>match ps with
 | [.a [.lf np pt,.lf ne ed],.n _ a]=>(⟨np,pt,ne,unFE ed⟩,a)
 | _=>(⟨0,fun _=>[],0,fun _=>unE []⟩,0)
noncomputable def o_ic:List PV→Option (Bool × Ret):=o_fm dic cic eic ric
theorem jWD:qZC Try.prog 42 o_ic:=qJJ fun t h=>by
 obtain ⟨g,a⟩:=t;exact yHY NN g a rfl h.1 h.2
noncomputable def orch (N:Nat) (g:Gr) (wl:Nat) (e:Nat→Int) (a b _:Int):OrS:=orS [(42,o_ic),(14,o_rn)] []
noncomputable def hch (N:Nat) (g:Gr) (wl:Nat) (e:Nat→Int) (a b low:Int) (x:Int) (y:Int) (i:Int):St:=⟨[(1,.v (.lf wl (fQ e))),(3,.v (.n .i64 b)),(4,.v (.n .i64 low)),(5,.p 5 0),(11,.v (.n .i64 x)),(12,.v (.n .i64 y)),(13,.v (.n .i64 i))],[(5,.blk [.v (.lf g.np g.pt),.v (.lf g.ne (fE g.ed))])]⟩
set_option maxRecDepth 100000 in
theorem rdch (G:St→Option (Ret × Mem)) (K:Cont) (N:Nat) (g:Gr) (wl:Nat) (e:Nat→Int) (a b low:Int) (x:Int) (y:Int) (i:Int):yX (N + 10) (cxS Tf (orch N g wl e a b low) (N + 10) 20 (ntmF Tf 20)) (evX Tf (orch N g wl e a b low) (N + 10) 20 (ntmF Tf 20)) (qY []) (qZ Tf 20 [0,1,0,1,1]) [0,1,0,1,1] (Tf.hint 20 (qJ (qZ Tf 20 [0,1,0,1,1]))) K G (hch N g wl e a b low x y i) =
 (bif (decide (i < (wl:Int))) then (bif (decide (i < 40)) then (bif (gF1 cic eic (g,x)) then (bif (decide (((icN g x):Int)=0)) then (K .ret ⟨[(10,.v (.b false))],[]⟩)
 else (bif (inB i wl) then (bif (gF1 crn ern ((e (i).toNat),((icN g x):Int))) then (bif (inB ((e (i).toNat) % ((icN g x):Int)) (icN g x)) then (bif (inB ((icV g x) (((e (i).toNat) % ((icN g x):Int))).toNat) g.ne) then (bif (!decide ((g.ed (((icV g x) (((e (i).toNat) % ((icN g x):Int))).toNat)).toNat).s=2)) then (bif (decide ((vYX .i64 ((vYX .i64 ((g.ed (((icV g x) (((e (i).toNat) % ((icN g x):Int))).toNat)).toNat).u + (g.ed (((icV g x) (((e (i).toNat) % ((icN g x):Int))).toNat)).toNat).v)) - x))=b)) then (bif (decide ((vYX .i64 (y + (g.ed (((icV g x) (((e (i).toNat) % ((icN g x):Int))).toNat)).toNat).c)) < low)) then (K .ret ⟨[(10,.v (.b true))],[]⟩)
 else (G (hch N g wl e a b low (vYX .i64 ((vYX .i64 ((g.ed (((icV g x) (((e (i).toNat) % ((icN g x):Int))).toNat)).toNat).u + (g.ed (((icV g x) (((e (i).toNat) % ((icN g x):Int))).toNat)).toNat).v)) - x)) (vYX .i64 (y + (g.ed (((icV g x) (((e (i).toNat) % ((icN g x):Int))).toNat)).toNat).c)) (vYX .i64 (i + 1)))))
 else (G (hch N g wl e a b low (vYX .i64 ((vYX .i64 ((g.ed (((icV g x) (((e (i).toNat) % ((icN g x):Int))).toNat)).toNat).u + (g.ed (((icV g x) (((e (i).toNat) % ((icN g x):Int))).toNat)).toNat).v)) - x)) (vYX .i64 (y + (g.ed (((icV g x) (((e (i).toNat) % ((icN g x):Int))).toNat)).toNat).c)) (vYX .i64 (i + 1)))))
 else (bif (decide (x=b)) then (bif (decide (y < low)) then (K .ret ⟨[(10,.v (.b true))],[]⟩)
 else (G (hch N g wl e a b low x y (vYX .i64 (i + 1)))))
 else (G (hch N g wl e a b low x y (vYX .i64 (i + 1))))))
 else none)
 else none)
 else none)
 else none))
 else none)
 else (K (.exit 0) ⟨[],[]⟩))
 else (K (.exit 0) ⟨[],[]⟩)):=by kernel_rfl
noncomputable def dcch (g:Gr) (wl:Nat) (e:Nat→Int) (b low:Int):(Int × Int × Int)→(Int × Int × Int) ⊕ (Nat × Int × Int × Int):=fun t=>match t with | (x,y,i)=>(bif (decide (i < (wl:Int))) then (bif (decide (i < 40)) then (bif (gF1 cic eic (g,x)) then (bif (decide (((icN g x):Int)=0)) then (.inr (0,(x,y,i))) else (bif (inB i wl) then (bif (gF1 crn ern ((e (i).toNat),((icN g x):Int))) then (bif (inB ((e (i).toNat) % ((icN g x):Int)) (icN g x)) then (bif (inB ((icV g x) (((e (i).toNat) % ((icN g x):Int))).toNat) g.ne) then (bif (!decide ((g.ed (((icV g x) (((e (i).toNat) % ((icN g x):Int))).toNat)).toNat).s=2)) then (bif (decide ((vYX .i64 ((vYX .i64 ((g.ed (((icV g x) (((e (i).toNat) % ((icN g x):Int))).toNat)).toNat).u + (g.ed (((icV g x) (((e (i).toNat) % ((icN g x):Int))).toNat)).toNat).v)) - x))=b)) then (bif (decide ((vYX .i64 (y + (g.ed (((icV g x) (((e (i).toNat) % ((icN g x):Int))).toNat)).toNat).c)) < low)) then (.inr (1,(x,y,i))) else (.inl ((vYX .i64 ((vYX .i64 ((g.ed (((icV g x) (((e (i).toNat) % ((icN g x):Int))).toNat)).toNat).u + (g.ed (((icV g x) (((e (i).toNat) % ((icN g x):Int))).toNat)).toNat).v)) - x)),(vYX .i64 (y + (g.ed (((icV g x) (((e (i).toNat) % ((icN g x):Int))).toNat)).toNat).c)),(vYX .i64 (i + 1))))) else (.inl ((vYX .i64 ((vYX .i64 ((g.ed (((icV g x) (((e (i).toNat) % ((icN g x):Int))).toNat)).toNat).u + (g.ed (((icV g x) (((e (i).toNat) % ((icN g x):Int))).toNat)).toNat).v)) - x)),(vYX .i64 (y + (g.ed (((icV g x) (((e (i).toNat) % ((icN g x):Int))).toNat)).toNat).c)),(vYX .i64 (i + 1))))) else (bif (decide (x=b)) then (bif (decide (y < low)) then (.inr (1,(x,y,i))) else (.inl (x,y,(vYX .i64 (i + 1))))) else (.inl (x,y,(vYX .i64 (i + 1)))))) else (.inr (3,(x,y,i)))) else (.inr (3,(x,y,i)))) else (.inr (3,(x,y,i)))) else (.inr (3,(x,y,i))))) else (.inr (3,(x,y,i)))) else (.inr (2,(x,y,i)))) else (.inr (2,(x,y,i))))
noncomputable def kxch (N:Nat) (g:Gr) (wl:Nat) (e:Nat→Int) (a b _:Int) (K:Cont) (w9:Nat × Int × Int × Int):Option (Ret × Mem):=bif Nat.beq w9.1 0 then (K .ret ⟨[(10,.v (.b false))],[]⟩) else bif Nat.beq w9.1 1 then (K .ret ⟨[(10,.v (.b true))],[]⟩) else bif Nat.beq w9.1 2 then (K (.exit 0) ⟨[],[]⟩) else none
theorem wlch (K:Cont) (N:Nat) (g:Gr) (wl:Nat) (e:Nat→Int) (a b low:Int):∀ n9 (t:(Int × Int × Int)),LFX (N + 10) (cxS Tf (orch N g wl e a b low) (N + 10) 20 (ntmF Tf 20)) (evX Tf (orch N g wl e a b low) (N + 10) 20 (ntmF Tf 20)) (qY []) (qZ Tf 20 [0,1,0,1,1]) [0,1,0,1,1] (Tf.hint 20 (qJ (qZ Tf 20 [0,1,0,1,1]))) K n9 (hch N g wl e a b low t.1 t.2.1 t.2.2)=(qX (dcch g wl e b low) n9 t).bind (kxch N g wl e a b low K):=fun n9 t=>by
 refine qQY (L:=LFX (N + 10) (cxS Tf (orch N g wl e a b low) (N + 10) 20 (ntmF Tf 20)) (evX Tf (orch N g wl e a b low) (N + 10) 20 (ntmF Tf 20)) (qY []) (qZ Tf 20 [0,1,0,1,1]) [0,1,0,1,1] (Tf.hint 20 (qJ (qZ Tf 20 [0,1,0,1,1]))) K) (stp:=yX (N + 10) (cxS Tf (orch N g wl e a b low) (N + 10) 20 (ntmF Tf 20)) (evX Tf (orch N g wl e a b low) (N + 10) 20 (ntmF Tf 20)) (qY []) (qZ Tf 20 [0,1,0,1,1]) [0,1,0,1,1] (Tf.hint 20 (qJ (qZ Tf 20 [0,1,0,1,1]))) K) (fun _ _=>rfl) (fun _=>rfl) (fun t=>hch N g wl e a b low t.1 t.2.1 t.2.2) (fun _=>True) (dcch g wl e b low) (kxch N g wl e a b low K) (fun G t _ => ?_) (fun _ _ _ _=>trivial) n9 t trivial;obtain ⟨x,y,i⟩:=t;refine (rdch G K N g wl e a b low x y i).trans ?_;dsimp only [dcch];cases (decide (i < (wl:Int)))
 ·rfl
 ·cases (decide (i < 40))
  ·rfl
  ·cases (gF1 cic eic (g,x))
   ·rfl
   ·cases (decide (((icN g x):Int)=0))
    ·cases (inB i wl)
     ·rfl
     ·cases (gF1 crn ern ((e (i).toNat),((icN g x):Int)))
      ·rfl
      ·cases (inB ((e (i).toNat) % ((icN g x):Int)) (icN g x))
       ·rfl
       ·cases (inB ((icV g x) (((e (i).toNat) % ((icN g x):Int))).toNat) g.ne)
        ·rfl
        ·cases (!decide ((g.ed (((icV g x) (((e (i).toNat) % ((icN g x):Int))).toNat)).toNat).s=2))
         ·cases (decide (x=b))
          ·rfl
          ·cases (decide (y < low))
           ·rfl
           ·rfl
         ·cases (decide ((vYX .i64 ((vYX .i64 ((g.ed (((icV g x) (((e (i).toNat) % ((icN g x):Int))).toNat)).toNat).u + (g.ed (((icV g x) (((e (i).toNat) % ((icN g x):Int))).toNat)).toNat).v)) - x))=b))
          ·rfl
          ·cases (decide ((vYX .i64 (y + (g.ed (((icV g x) (((e (i).toNat) % ((icN g x):Int))).toNat)).toNat).c)) < low))
           ·rfl
           ·rfl
    ·rfl
noncomputable def zHU (N:Nat) (g:Gr) (wl:Nat) (e:Nat→Int) (b low:Int) (t:(Int × Int × Int)):Bool:=(qX (dcch g wl e b low) (N + 10) t).isSome
noncomputable def zJQ (N:Nat) (g:Gr) (wl:Nat) (e:Nat→Int) (b low:Int) (t:(Int × Int × Int)):Nat × Int × Int × Int:=(qX (dcch g wl e b low) (N + 10) t).getD (99,t)
theorem lwch (K:Cont) (N:Nat) (g:Gr) (wl:Nat) (e:Nat→Int) (a b low:Int) (t:(Int × Int × Int)) (hg:zHU N g wl e b low t=true):LFX (N + 10) (cxS Tf (orch N g wl e a b low) (N + 10) 20 (ntmF Tf 20)) (evX Tf (orch N g wl e a b low) (N + 10) 20 (ntmF Tf 20)) (qY []) (qZ Tf 20 [0,1,0,1,1]) [0,1,0,1,1] (Tf.hint 20 (qJ (qZ Tf 20 [0,1,0,1,1]))) K (N + 10) (hch N g wl e a b low t.1 t.2.1 t.2.2)=kxch N g wl e a b low K (zJQ N g wl e b low t):=by
 refine (wlch K N g wl e a b low (N + 10) t).trans ?_;unfold zHU at hg;unfold zJQ;cases h:qX (dcch g wl e b low) (N + 10) t with
 | none=>rw [h] at hg; cases hg
 | some y=>rfl
section
variable {g:Gr} {wl:Nat} {e:Nat→Int} {b low:Int} {q:Nat→Int}
theorem jZC (hm:yQK g) (hb:0≤b∧b < (g.np:Int)) (hlow:q b.toNat=low) (hd:∀ m,m < g.ne→(g.ed m).s ≠ 2→q (g.ed m).u.toNat - q (g.ed m).v.toNat≤(g.ed m).c∧q (g.ed m).v.toNat - q (g.ed m).u.toNat≤(g.ed m).c):∀ (d i x:Nat) (y:Int) (M:Nat),i + d=40→d < M→x < g.np→q x≤y→0≤y→y≤6 * (i:Int)→∃ k s,qX (dcch g wl e b low) M ((x:Int),y,(i:Int))=some (k,s)∧(k=0 ∨ k=2)
 | _,_,_,_,0,_,h,_,_,_,_=>by omega
 | 0,i,x,y,M + 1,hi,_,hx,hy,h0,h6=>by
  rw [qX];dsimp only [dcch];rw [vYY (show ¬ (i:Int) < 40 by omega)];cases decide ((i:Int) < (wl:Int))
  ·exact ⟨2,_,rfl,.inr rfl⟩
  ·exact ⟨2,_,rfl,.inr rfl⟩
 | d + 1,i,x,y,M + 1,hi,hM,hx,hy,h0,h6=>by
  obtain ⟨hw,_,h9,hn,hc6⟩:=id hm;rw [qX];dsimp only [dcch];rw [vYJ (show (i:Int) < 40 by omega),uX (C:=cic) (t:=(g,(x:Int))) ⟨hw,by omega⟩];by_cases hl:i < wl
  ·rw [vYJ (show (i:Int) < (wl:Int) by omega),vYQ,vYQ,vYQ];by_cases hz:((icN g (x:Int):Nat):Int)=0
   ·rw [vYJ hz]; exact ⟨0,_,rfl,.inl rfl⟩
   ·rw [vYY hz,vYZ,zV hl,vYQ,toN];obtain ⟨_,_,hcn,hcs⟩:=yYC (g:=g) (x:Int) hw (by omega);have hk:0 < ((icN g (x:Int):Nat):Int)∧((icN g (x:Int):Nat):Int)≤9223372036854775807:=by omega
    have b1:=Int.emod_nonneg (e i) hz;have b2:=Int.emod_lt_of_pos (e i) hk.1;obtain ⟨m,m1,m2,m3⟩:=hcs (e i % ((icN g (x:Int):Nat):Int)).toNat (by omega);rw [uX (C:=crn) (t:=(e i,((icN g (x:Int):Nat):Int))) hk,show inB (e i % ((icN g (x:Int):Nat):Int)) (icN g (x:Int))=true from (by unfold inB; rw [vYJ b1,vYJ (by omega)]; rfl),vYQ,vYQ,m1,zV m2,vYQ,toN];obtain ⟨e1,e2,e3,e4,_⟩:=uG hw m2;have e6:=(hc6 m m2).2;by_cases hs:(g.ed m).s=2
    ·rw [vYJ hs,Bool.not_true,vYZ,qQB (show i < 1000000 by omega)];have hr:=jZC hm hb hlow hd d (i + 1) x y M (by omega) (by omega) hx hy h0 (by omega);by_cases hxb:(x:Int)=b
     ·rw [vYJ hxb,vYQ,vYY (show ¬ y < low by
       rw [← hlow,← hxb,toN]; omega),vYZ]
      exact hr
     ·rw [vYY hxb,vYZ];exact hr
    ·rw [vYY hs,Bool.not_false,vYQ,qQB (show i < 1000000 by omega)];obtain ⟨d1,d2⟩:=hd m m2 hs;obtain ⟨x',hx1,hx2,hx3⟩:∃ x':Nat,(g.ed m).u + (g.ed m).v - (x:Int)=(x':Int)∧x' < g.np∧q x'≤y + (g.ed m).c:=by
      rcases m3 with m3 | m3
      ·refine ⟨(g.ed m).v.toNat,by omega,by omega,?_⟩;rw [m3,toN] at d2; omega
      ·refine ⟨(g.ed m).u.toNat,by omega,by omega,?_⟩;rw [m3,toN] at d1; omega
     rw [yG (show -9223372036854775808≤(g.ed m).u + (g.ed m).v∧_ by omega),yG (show -9223372036854775808≤(g.ed m).u + (g.ed m).v - (x:Int)∧_ by omega),yG (show -9223372036854775808≤y + (g.ed m).c∧_ by omega),hx1];have hr:=jZC hm hb hlow hd d (i + 1) x' (y + (g.ed m).c) M (by omega) (by omega) hx2 hx3 (by omega) (by omega);by_cases hxb:(x':Int)=b
     ·rw [vYJ hxb,vYQ,vYY (show ¬ y + (g.ed m).c < low by
       rw [← hlow,← hxb,toN]; omega),vYZ]
      exact hr
     ·rw [vYY hxb,vYZ];exact hr
  ·rw [vYY (show ¬ (i:Int) < (wl:Int) by omega)];exact ⟨2,_,rfl,.inr rfl⟩
end
theorem yVW {g:Gr} {a b low:Int} {n:Nat} {q:Nat→Int} (h:cbB g a b low n q=true):wfB g=true∧(0≤a∧a < (g.np:Int))∧(0≤b∧b < (g.np:Int))∧n=g.np∧q a.toNat=0∧q b.toNat=low∧∀ m,m < g.ne→(g.ed m).s ≠ 2→q (g.ed m).u.toNat - q (g.ed m).v.toNat≤(g.ed m).c∧q (g.ed m).v.toNat - q (g.ed m).u.toNat≤(g.ed m).c:=by
 unfold cbB at h;simp only [vQJ,decide_eq_true_eq] at h;obtain ⟨⟨hw,ha,hb⟩,hn,h1,h2,h3,h4⟩:=h;refine ⟨hw,qGQ ha,qGQ hb,by omega,h2,h3,fun m hm hs => ?_⟩;have h5:=allN_iff.1 h4 m (Nat.zero_le _) (by omega);obtain ⟨e1,e2,e3,e4,_⟩:=uG hw hm;have hq:∀ i,i < n → -1125899906842624≤q i∧q i≤1125899906842624:=fun i hi=>by
  have:=allN_iff.1 h1 i (Nat.zero_le _) (by omega)
  unfold nqB at this;simp only [vQJ,Bool.not_eq_true',decide_eq_false_iff_not] at this;omega
 have hu:=hq (g.ed m).u.toNat (by omega);have hv:=hq (g.ed m).v.toNat (by omega);unfold gdE at h5;rw [vYY hs,Bool.false_or,yG (by omega),yG (by omega)] at h5;simp only [Bool.not_eq_true',decide_eq_false_iff_not] at h5;omega
noncomputable def yWK (N:Nat) (g:Gr) (wl:Nat) (e:Nat→Int) (a b low:Int):List (List Nat × yK):=[([0,1,0,1,1],sumF (fun t:(Int × Int × Int)=>(hch N g wl e a b low t.1 t.2.1 t.2.2)) (fun σ=>(slI σ 11,slI σ 12,slI σ 13)) (fun t K=>(bif zHU N g wl e b low t then kxch N g wl e a b low K (zJQ N g wl e b low t) else none)))]
set_option maxRecDepth 100000 in
theorem jWJ (N:Nat) (g:Gr) (wl:Nat) (e:Nat→Int) (a b low:Int):qZV Tf (orch N g wl e a b low) (qY (yWK N g wl e a b low)) (N + 10) 20 [.a (gP g),.lf wl (fQ e),.n .i64 a,.n .i64 b,.n .i64 low] =
 (bif (gSt (hch N g wl e a b low a 0 0) (hch N g wl e a b low a 0 0)) then (bif (zHU N g wl e b low (a,0,0)) then (bif (Nat.beq (zJQ N g wl e b low (a,0,0)).1 0) then some (.v (.b false),[])
 else (bif (Nat.beq (zJQ N g wl e b low (a,0,0)).1 1) then some (.v (.b true),[])
 else (bif (Nat.beq (zJQ N g wl e b low (a,0,0)).1 2) then some (.v (.b false),[])
 else none)))
 else none)
 else none):=by kernel_rfl
theorem yHK (N:Nat) (g:Gr) (wl:Nat) (e:Nat→Int) (a b low:Int) (hN:N=100) (hm:yQK g) (h:∃ n q,cbB g a b low n q=true):zH Try.prog 20 [.a (gP g),.lf wl (fQ e),.n .i64 a,.n .i64 b,.n .i64 low] (.v (.b false)):=by
 refine zJ (N:=(N + 10)) (LO:=qY (yWK N g wl e a b low)) kJ jJ (kX (l:=[(42,o_ic),(14,o_rn)]) (m:=[]) ⟨jWD,yZC,trivial⟩ trivial) (fun p S hp => ?_) ?_
 ·refine qV (L:=qZ Tf 20) (l:=(yWK N g wl e a b low)) (show AllP _ (yWK N g wl e a b low) from ⟨?_,trivial⟩) p S hp
  ·dsimp only;refine yV (T:=Tf) (o:=(orch N g wl e a b low)) (f:=20) (LO:=qY []) (p:=[0,1,0,1,1]) kZ ?_;intro t K r hr;obtain ⟨hg,hr⟩:=qQ hr
   skip
   exact (lwch K N g wl e a b low t hg).trans hr
 ·refine (jWJ N g wl e a b low).trans ?_;subst hN;obtain ⟨n,q,h⟩:=h;obtain ⟨_,ha,hb,_,h2,h3,h4⟩:=yVW h;obtain ⟨x,rfl⟩:∃ x:Nat,a=(x:Int):=⟨a.toNat,by omega⟩
  obtain ⟨k,s,h5,h6⟩:=jZC (wl:=wl) (e:=e) hm hb h3 h4 40 0 x 0 110 (by omega) (by omega) (by omega) (by rw [toN] at h2; omega) (by omega) (by omega);have h5:qX (dcch g wl e b low) (100 + 10) ((x:Int),0,0)=some (k,s):=h5;have o1:zHU 100 g wl e b low ((x:Int),0,0)=true:=by unfold zHU; rw [h5]; rfl
  have o2:zJQ 100 g wl e b low ((x:Int),0,0)=(k,s):=by unfold zJQ; rw [h5]; rfl
  rw [yY,o1,o2];rcases h6 with rfl | rfl <;> rfl
def cch:Gr × Nat × (Nat→Int) × Int × Int × Int→Prop:=fun t=>match t with | (g,_,_,a,b,low)=>yQK g∧∃ n q,cbB g a b low n q=true
def ech:Gr × Nat × (Nat→Int) × Int × Int × Int→List PV:=fun t=>match t with | (g,wl,e,a,b,low)=>[.a (gP g),.lf wl (fQ e),.n .i64 a,.n .i64 b,.n .i64 low]
noncomputable def rch:Gr × Nat × (Nat→Int) × Int × Int × Int→Ret:=fun t=>match t with | (_,_,_,_,b,_)=>.v (.b false)
def dch:List PV→Gr × Nat × (Nat→Int) × Int × Int × Int:=fun ps=>match ps with
 | [.a [.lf np pt,.lf ne ed],.lf n f,.n _ a,.n _ b,.n _ l]=>(⟨np,pt,ne,unFE ed⟩,n,unFQ f,a,b,l)
 | _=>(⟨0,fun _=>[],0,fun _=>unE []⟩,0,fun _=>0,0,0,0)
noncomputable def o_ch:List PV→Option (Bool × Ret):=o_fm dch cch ech rch
theorem jKG:qZC Try.prog 20 o_ch:=qJJ fun t h=>by
 obtain ⟨g,wl,e,a,b,low⟩:=t;exact yHK 100 g wl e a b low rfl h.1 h.2
end Go.Proofs.Ytglkkhpdbfacfaa.Ch

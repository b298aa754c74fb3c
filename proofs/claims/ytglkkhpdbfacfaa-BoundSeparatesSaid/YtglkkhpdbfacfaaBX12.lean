/- Part 12 of the texts behind the last one: rules and contracts. No condition. -/
import Derived.Test.YtglkkhpdbfacfaaBX11
open Bool renaming and_eq_true → vQJ, true_and → vZW
open List renaming getElem?_take → vZU, getD_eq_getElem?_getD → vZX
open Nat renaming eq_of_beq_eq_true → vQU
open Go.IntKind renaming wrap → vYX
namespace Go.Proofs.Ytglkkhpdbfacfaa.By
open Go.Rx Rt Go.Sx Go.RowKit Ba Bb Bc Bd Be Bf Bi Bj Bk Bl Bm Bn Bo Bp Bq Br Bs Bt Bu Bv Bw Bx
section
variable {np:Nat} {ln:Nat→Nat} {lt lc:Nat→Nat→Int}
theorem Wk.front {x y w:Nat} (hy:y < np) (hw:w < ln y) (hx:lt y w=(x:Int)) {z:Nat} {c p:Int} (h:Wk np ln lt lc x z c p):Wk np ln lt lc y z (c + lc y w) (p + 1):=by
 induction h with
 | nil=>exact .cons .nil hy hw hx
 | @cons u z w2 c p h hu hw2 hz ih =>
  rw [show c + lc u w2 + lc y w=c + lc y w + lc u w2 by omega];exact .cons ih hu hw2 hz
theorem Wk.rev (hl:LOk np ln lt lc) (hs:LSym np ln lt lc) {b x:Nat} {c p:Int} (h:Wk np ln lt lc b x c p):Wk np ln lt lc x b c p:=by
 induction h with
 | nil=>exact .nil
 | @cons x y w c p h hx hw hy ih =>
  obtain ⟨w',g1,g2,g3⟩:=hs x w y hx hw hy;have ht:=hl.hto x w hx hw;rw [← g3];exact Wk.front (by omega) g1 g2 ih
end
section
variable {g:Gr} {m:Int} {b:Nat}
theorem WkG.rev (hw:wfB g=true) (hp:g.np≤100) (hn:g.ne≤500) {x:Nat} {c p:Int} (h:WkG g m b x c p):WkG g m x b c p:=Wk.rev (qWE hw hp hn).1 (qWE hw hp hn).2 h
def Least (g:Gr) (m:Int) (b v:Nat) (c:Int):Prop:=(∃ p,WkG g m b v c p)∧∀ c' p',WkG g m b v c' p'→c≤c'
theorem Least.uniq {v:Nat} {c c':Int} (h:Least g m b v c) (h':Least g m b v c'):c=c':=by
 obtain ⟨⟨p,h1⟩,h2⟩:=h;obtain ⟨⟨p',h3⟩,h4⟩:=h'
 have:=h2 _ _ h3
 have:=h4 _ _ h1
 omega
theorem yVW (hw:wfB g=true) (hp:g.np≤100) (hn:g.ne≤500) (hb:b < g.np) {v:Nat} (hv:v < g.np):((lbT g b m).2.1 v < 0∧∀ c p,¬ WkG g m b v c p) ∨ (0≤(lbT g b m).2.1 v∧Least g m b v ((lbT g b m).2.1 v)):=by
 have hl:=(qWE (m:=m) hw hp hn).1;obtain ⟨_,_,_,_,h1,h2⟩:=yJJ (m:=m) hw hp hn hb;by_cases h0:(lbT g b m).2.1 v < 0
 ·refine .inl ⟨h0,fun c p h => ?_⟩
  have:=h2 v c p h
  have hbd:=h.bd hl;unfold leL at this; omega
 ·refine .inr ⟨by omega,?_,fun c p h => ?_⟩
  ·rcases h1.wk v hv with h3 | h3
   ·omega
   ·exact ⟨_,h3⟩
  ·have:=h2 v c p h
   have hbd:=h.bd hl;unfold leL leR at this; omega
theorem yUI (hw:wfB g=true) (hp:g.np≤100) (hn:g.ne≤500) {a:Nat} (ha:a < g.np) (hb:b < g.np):(shF g.np (lkO g m).1 (lkO g m).2.1 (lkO g m).2.2 a b=false∧∀ c p,¬ WkG g m a b c p) ∨ (shF g.np (lkO g m).1 (lkO g m).2.1 (lkO g m).2.2 a b=true∧Least g m a b (shC g.np (lkO g m).1 (lkO g m).2.1 (lkO g m).2.2 a b)):=by
 obtain ⟨h1,h2⟩:=qWE (m:=m) hw hp hn;obtain ⟨_,_,h3⟩:=qVF h1 h2 ha hb;rcases h3 with ⟨h3,h4⟩ | ⟨h3,_,_,_,⟨p,h5⟩,h6⟩
 ·exact .inl ⟨h3,fun c p h=>h4 c p (Wk.rev h1 h2 h)⟩
 ·exact .inr ⟨h3,⟨p,Wk.rev h1 h2 h5⟩,fun c p h=>h6 c p (Wk.rev h1 h2 h)⟩
theorem jQA (hw:wfB g=true) (hp:g.np≤100) (hn:g.ne≤500) (hb:b < g.np):shF g.np (lkO g m).1 (lkO g m).2.1 (lkO g m).2.2 b b=true:=by
 rcases yUI (m:=m) hw hp hn hb hb with ⟨_,h⟩ | ⟨h,_⟩
 ·exact absurd Wk.nil (h 0 1)
 ·exact h
end
end Go.Proofs.Ytglkkhpdbfacfaa.By
namespace Go.Proofs.Ytglkkhpdbfacfaa.Bz
open Go.Rx Rt Go.Sx Go.RowKit Ba Bb Bc Bd Be Bf Bi Bj Bk Bl Bh Bm Bn Bo Bp Bq Br Bs Bt Bu Bv Bw Bx By
def clb:Gr × Int × Int→Prop:=fun t=>match t with | (g,b,_)=>wfB g=true∧g.np≤100∧g.ne≤500∧0≤b∧b < (g.np:Int)
def elb:Gr × Int × Int→List PV:=fun t=>match t with | (g,b,m)=>[.a (gP g),.n .i64 b,.n .i64 m]
noncomputable def rlb:Gr × Int × Int→Ret:=fun t=>match t with | (g,b,m)=>.ow 76 2 (.fo g.np (tcP (lbT g b m).2.1 (lbT g b m).2.2))
def dlb:List PV→Gr × Int × Int:=fun ps=>match ps with
 | [.a [.lf np pt,.lf ne ed],.n _ b,.n _ m]=>(⟨np,pt,ne,unFE ed⟩,b,m)
 | _=>(⟨0,fun _=>[],0,fun _=>unE []⟩,0,0)
noncomputable def o_lb:List PV→Option (Bool × Ret):=o_fm dlb clb elb rlb
theorem kQY:uJ Try.prog 33 o_lb:=qQG fun t h=>by
 obtain ⟨g,b,m⟩:=t;exact by
  have h:wfB g=true∧g.np≤100∧g.ne≤500∧0≤b∧b < (g.np:Int):=h;exact jKC NN g b m b.toNat (by omega) rfl h.1 h.2.1 h.2.2.1 (by omega)
theorem yUD {g:Gr} (hp:g.np≤100) (hn:g.ne≤500) (v:Int):stF g v v 2=(wfB g && isP g v):=by
 unfold stF stQ;cases hw:wfB g with
 | false=>rfl
 | true =>
  cases hv:isP g v with
  | false=>rfl
  | true =>
   have h:=qGB hv;obtain ⟨n,rfl⟩:∃ n:Nat,v=(n:Int):=⟨v.toNat,by omega⟩
   exact jQA hw hp hn (by omega)
noncomputable def orhp (g:Gr) (a b:Int):OrS:=orS [(37,o_st)] []
noncomputable def lshp (g:Gr) (a b:Int):List (List Nat × zH):=[]
set_option maxRecDepth 100000 in
theorem pxhp (g:Gr) (a b:Int):qQY Tf (orhp g a b) (qY (lshp g a b)) 60 41 [.a (gP g),.n .i64 a,.n .i64 b] =
 (bif (gF1 cst est (g,a,a,2)) then (bif (stF g a a 2) then (bif (gF1 cst est (g,b,b,2)) then (bif (stF g b b 2) then some (.v (.b true),[])
 else some (.v (.b false),[]))
 else none)
 else some (.v (.b false),[]))
 else none):=by kernel_rfl
theorem jKF (g:Gr) (a b:Int) (hp:g.np≤100) (hn:g.ne≤500):yZ Try.prog 41 [.a (gP g),.n .i64 a,.n .i64 b] (.v (.b (wfB g && (isP g a && isP g b)))):=by
 refine qV (N:=60) (LO:=qY (lshp g a b)) yX yU (yV (l:=[(37,o_st)]) (m:=[]) ⟨jHH,trivial⟩ trivial) (fun p S hp => ?_) ?_
 ·refine qX (L:=qQ Tf 41) (l:=(lshp g a b)) (show AllP _ (lshp g a b) from trivial) p S hp
 ·refine (pxhp g a b).trans ?_;simp only [jJ (C:=cst) (t:=(g,a,a,2)) ⟨hp,hn⟩,jJ (C:=cst) (t:=(g,b,b,2)) ⟨hp,hn⟩,yUD hp hn,vYQ];cases wfB g <;> cases isP g a <;> cases isP g b <;> rfl
def chp:Gr × Int × Int→Prop:=fun t=>match t with | (g,_,_)=>g.np≤100∧g.ne≤500
def ehp:Gr × Int × Int→List PV:=fun t=>match t with | (g,a,b)=>[.a (gP g),.n .i64 a,.n .i64 b]
noncomputable def rhp:Gr × Int × Int→Ret:=fun t=>match t with | (g,a,b)=>.v (.b (wfB g && (isP g a && isP g b)))
def dhp:List PV→Gr × Int × Int:=fun ps=>match ps with
 | [.a [.lf np pt,.lf ne ed],.n _ a,.n _ b]=>(⟨np,pt,ne,unFE ed⟩,a,b)
 | _=>(⟨0,fun _=>[],0,fun _=>unE []⟩,0,0)
noncomputable def o_hp:List PV→Option (Bool × Ret):=o_fm dhp chp ehp rhp
theorem jXX:uJ Try.prog 41 o_hp:=qQG fun t h=>by
 obtain ⟨g,a,b⟩:=t;exact jKF g a b h.1 h.2
end Go.Proofs.Ytglkkhpdbfacfaa.Bz
namespace Go.Proofs.Ytglkkhpdbfacfaa.Ca
end Go.Proofs.Ytglkkhpdbfacfaa.Ca
namespace Go.Proofs.Ytglkkhpdbfacfaa.Cb
open Go.Rx Rt Go.Sx Go.RowKit Ba Bb Bc Bd Be Bf Bi Bj Bk Bl Bh Bm Bn Bo Bp Bq Br Bs Bt Bu Bv Bw Bx By Bz
theorem jWB {g:Gr} (hw:wfB g=true) {i:Nat} (hi:i < g.ne):inB (g.ed i).u g.np=true∧inB (g.ed i).v g.np=true:=by
 obtain ⟨h1,h2,h3,_,_⟩:=uV hw hi;exact ⟨by unfold inB; rw [vYJ h1,vYJ (by omega)]; rfl,by unfold inB; rw [vYJ (by omega),vYJ (by omega)]; rfl⟩
def okC (g:Gr) (n:Nat):Bool:=wfB g && (decide (n=g.np) && decide (g.ne≤500))
theorem yGI {g:Gr} {n:Nat} (h:okC g n=true):wfB g=true∧n=g.np∧g.ne≤500:=by
 unfold okC at h;simp only [vQJ,decide_eq_true_eq] at h;exact h
noncomputable def hc1 (g:Gr) (a b low:Int) (n:Nat) (q:Nat→Int) (i:Int):St:=⟨[(1,.v (.n .i64 a)),(2,.v (.n .i64 b)),(3,.v (.n .i64 low)),(4,.v (.lf n (fQ q))),(5,.p 5 0),(10,.p 10 0),(30,.v (.lf n (fQ q))),(31,.v (.n .i64 (n:Int))),(32,.v (.n .i64 i))],[(5,.blk [.v (.lf g.np g.pt),.v (.lf g.ne (fE g.ed))]),(10,.blk [.v (.b false)])]⟩
noncomputable def hb1 (g:Gr) (a b _:Int) (n:Nat) (q:Nat→Int) (i:Int):St:=⟨[(4,.v (.lf n (fQ q))),(5,.p 5 0),(11,.v (.n .i64 i))],[(5,.blk [.v (.lf g.np g.pt),.v (.lf g.ne (fE g.ed))])]⟩
noncomputable def hc2 (g:Gr) (a b _:Int) (n:Nat) (q:Nat→Int) (i:Int):St:=⟨[(4,.v (.lf n (fQ q))),(10,.p 10 0),(57,.v (.lf g.ne (fE g.ed))),(58,.v (.n .i64 (g.ne:Int))),(59,.v (.n .i64 i))],[(10,.blk [.v (.b false)])]⟩
noncomputable def hb2 (g:Gr) (a b _:Int) (n:Nat) (q:Nat→Int) (i:Int):St:=⟨[(4,.v (.lf n (fQ q))),(5,.p 5 0),(12,.v (.n .i64 i))],[(5,.blk [.v (.lf g.np g.pt),.v (.lf g.ne (fE g.ed))])]⟩
theorem qJJ {g:Gr} {a:Int} (h:isP g a=true):inB a g.np=true:=by
 have:=qGB h
 unfold inB;rw [vYJ (show 0≤a by omega),vYJ (by omega)]; rfl
theorem jWQ {g:Gr} (hw:wfB g=true) (hn:g.ne≤500):okC g g.np=true:=by
 unfold okC;rw [hw,vYJ rfl,vYJ hn]; rfl
end Go.Proofs.Ytglkkhpdbfacfaa.Cb
namespace Go.Proofs.Ytglkkhpdbfacfaa.Cc
open Go.Rx Rt Go.Sx Go.RowKit Ba Bb Bc Bd Be Bf Bi Bj Bk Bl Bh Bm Bn Bo Bp Bq Br Bs Bt Bu Bv Bw Bx By Bz
noncomputable def jHX (x k:Int):OrS:=orS [] []
noncomputable def yWL (x k:Int):List (List Nat × zH):=[]
set_option maxRecDepth 100000 in
theorem jGF (x k:Int):qQY Tf (jHX x k) (qY (yWL x k)) 60 14 [.n .i64 x,.n .i64 k] =
 (bif (decide (k=0)) then none
 else (bif (decide ((x.tmod k) < 0)) then some (.v (.n .i64 (vYX .i64 ((x.tmod k) + k))),[])
 else some (.v (.n .i64 (x.tmod k)),[]))):=by kernel_rfl
theorem jQU (x k:Int) (hk:0 < k∧k≤9223372036854775807):yZ Try.prog 14 [.n .i64 x,.n .i64 k] (.v (.n .i64 (x % k))):=by
 refine qV (N:=60) (LO:=qY (yWL x k)) yX yU (yV (l:=[]) (m:=[]) trivial trivial) (fun p S hp => ?_) ?_
 ·refine qX (L:=qQ Tf 14) (l:=(yWL x k)) (show AllP _ (yWL x k) from trivial) p S hp
 ·refine (jGF x k).trans ?_;have hk0:k ≠ 0:=by omega
  have h1:=Int.emod_nonneg x hk0;have h2:=Int.emod_lt_of_pos x hk.1;rw [vYY (show ¬ k=0 by omega),Int.tmod_eq_emod];by_cases h:0≤x ∨ k ∣ x
  ·rw [if_pos h,show ((0:Nat):Int)=0 from rfl,Int.sub_zero,vYY (show ¬ x % k < 0 by omega)];rfl
  ·rw [if_neg h,show ((k.natAbs:Nat):Int)=k by omega,vYJ (show x % k - k < 0 by omega),show vYX .i64 (x % k - k + k)=x % k from by rw [show x % k - k + k=x % k by omega]; exact jG (by omega)];rfl
def crn:Int × Int→Prop:=fun t=>match t with | (_,k)=>0 < k∧k≤9223372036854775807
def ern:Int × Int→List PV:=fun t=>match t with | (x,k)=>[.n .i64 x,.n .i64 k]
noncomputable def rrn:Int × Int→Ret:=fun t=>match t with | (x,k)=>.v (.n .i64 (x % k))
def drn:List PV→Int × Int:=fun ps=>match ps with
 | [.n _ x,.n _ k]=>(x,k)
 | _=>(0,0)
noncomputable def o_rn:List PV→Option (Bool × Ret):=o_fm drn crn ern rrn
theorem jYX:uJ Try.prog 14 o_rn:=qQG fun t h=>by
 obtain ⟨x,k⟩:=t;exact jQU x k h
noncomputable def ornx (_ m:Nat) (e:Nat→Int) (k:Int):OrS:=orS [(14,o_rn)] []
noncomputable def lsnx (_ m:Nat) (e:Nat→Int) (k:Int):List (List Nat × zH):=[]
set_option maxRecDepth 100000 in
theorem pxnx (wl m:Nat) (e:Nat→Int) (k:Int):zHG Tf (ornx wl m e k) (qY (lsnx wl m e k)) 60 30 [.p 1000000 0,.v (.n .i64 k)] [.lf wl (fQ e),.n .i64 (m:Int)] =
 (bif (decide ((wl:Int)≤(m:Int))) then some (.v (.t [.n .i64 0,.lf wl (fQ e),.n .i64 (m:Int)]),[])
 else (bif (inB (vYX .i64 ((vYX .i64 ((m:Int) + 1)) - 1)) wl) then (bif (gF1 crn ern ((e ((vYX .i64 ((vYX .i64 ((m:Int) + 1)) - 1))).toNat),k)) then some (.v (.t [.n .i64 ((e ((vYX .i64 ((vYX .i64 ((m:Int) + 1)) - 1))).toNat) % k),.lf wl (fQ e),.n .i64 (vYX .i64 ((m:Int) + 1))]),[])
 else none)
 else none)):=by kernel_rfl
theorem jKH (wl m:Nat) (e:Nat→Int) (k:Int) (_:m≤wl) (_:wl≤9223372036854775807) (hk:0 < k∧k≤9223372036854775807):yZJ Try.prog 30 [.p 1000000 0,.v (.n .i64 k)] [.lf wl (fQ e),.n .i64 (m:Int)] (.n .i64 (nxV e wl m k)) ([.lf wl (fQ e),.n .i64 ((min (m + 1) wl:Nat):Int)]):=by
 refine zXA (N:=60) (LO:=qY (lsnx wl m e k)) yX yU (yV (l:=[(14,o_rn)]) (m:=[]) ⟨jYX,trivial⟩ trivial) (fun p S hp => ?_) ?_
 ·refine qX (L:=qQ Tf 30) (l:=(lsnx wl m e k)) (show AllP _ (lsnx wl m e k) from trivial) p S hp
 ·refine (pxnx wl m e k).trans ?_;unfold nxV eW;by_cases h:m < wl
  ·have h1:vYX .i64 ((m:Int) + 1)=(m:Int) + 1:=jG (by omega);have h2:vYX .i64 ((m:Int) + 1 - 1)=((m:Nat):Int):=by rw [jG (by omega)]; omega
   rw [vYY (show ¬ (wl:Int)≤(m:Int) by omega),h1,h2,zU h,toN,jJ (C:=crn) (t:=(_,k)) hk,show Nat.blt m wl=true from by rw [Nat.blt_eq]; exact h,show min (m + 1) wl=m + 1 by omega];rfl
  ·rw [vYJ (show (wl:Int)≤(m:Int) by omega),show Nat.blt m wl=false from by rw [Bool.eq_false_iff,ne_eq,Nat.blt_eq]; exact h,show min (m + 1) wl=m by omega]
   simp
def cnx:Nat × Nat × (Nat→Int) × Int→Prop:=fun t=>match t with | (w,m,_,k)=>m≤w∧w≤9223372036854775807∧0 < k∧k≤9223372036854775807
def hnx:Nat × Nat × (Nat→Int) × Int→List HV:=fun t=>match t with | (_,_,_,k)=>[.p pid 0,.v (.n .i64 k)]
def enx:Nat × Nat × (Nat→Int) × Int→List PV:=fun t=>match t with | (w,m,e,_)=>[.lf w (fQ e),.n .i64 (m:Int)]
noncomputable def xnx:Nat × Nat × (Nat→Int) × Int→PV:=fun t=>match t with | (w,m,e,k)=>.n .i64 (nxV e w m k)
noncomputable def qnx:Nat × Nat × (Nat→Int) × Int→List PV:=fun t=>match t with | (w,m,e,_)=>[.lf w (fQ e),.n .i64 ((min (m + 1) w:Nat):Int)]
def dnx:List HV→List PV→Nat × Nat × (Nat→Int) × Int:=fun hs ps=>match hs,ps with
 | [_,.v (.n _ k)],[.lf w f,.n _ c]=>(w,c.toNat,unFQ f,k)
 | _,_=>(0,0,fun _=>0,0)
noncomputable def o_nx:List HV→List PV→Option (Bool × (PV × List PV)):=o_fb dnx cnx hnx enx xnx qnx
theorem kQQ:yUU Try.prog 30 o_nx:=kQW fun t h=>by
 obtain ⟨w,m,e,k⟩:=t;exact jKH w m e k h.1 h.2.1 h.2.2
def clK (x:Int):Int:=bif decide (x=1) then 1 else bif decide (x=2) then 2 else 0
def clA (x:Int):Nat:=bif decide (x=1) then 1 else 0
def clB (x:Int):Nat:=bif decide (x=2) then 1 else 0
def clD (x:Int):Int:=bif decide (x=3) then 1 else 0
def clF:Nat→List PV:=fun _=>[.n .i64 0,.n .i64 0,.zs]
def clG:Nat→List PV:=fun _=>[.n .i64 1]
theorem jUY (x:Int) (_:0≤x∧x≤3):yZ Try.prog 31 [.n .i64 x] (.v (.a [.n .i64 (clK x),.lf (clA x) clF,.n .i64 (clD x),.n .i64 0,.lf 0 clG,.n .i64 0,.lf (clB x) clG,.lf (clB x) clG])):=by
 have hs:x=0 ∨ x=1 ∨ x=2 ∨ x=3:=by omega
 rcases hs with rfl | rfl | rfl | rfl
 ·exact qZK (x:=.a [.n .i64 0,.l [],.n .i64 0,.n .i64 0,.l [],.n .i64 0,.l [],.l []]) (Same.a (xs:=[_,_,_,_,_,_,_,_]) ⟨Same.refl _,Same.lf rfl,Same.refl _,Same.refl _,Same.lf rfl,Same.refl _,Same.lf rfl,Same.lf rfl,trivial⟩) (qZX (N:=60) qYE yU qVZ (by kernel_rfl))
 ·exact qZK (x:=.a [.n .i64 1,.l [[.n .i64 0,.n .i64 0,.zs]],.n .i64 0,.n .i64 0,.l [],.n .i64 0,.l [],.l []]) (Same.a (xs:=[_,_,_,_,_,_,_,_]) ⟨Same.refl _,Same.lf rfl,Same.refl _,Same.refl _,Same.lf rfl,Same.refl _,Same.lf rfl,Same.lf rfl,trivial⟩) (qZX (N:=60) qYE yU qVZ (by kernel_rfl))
 ·exact qZK (x:=.a [.n .i64 2,.l [],.n .i64 0,.n .i64 0,.l [],.n .i64 0,.l [[.n .i64 1]],.l [[.n .i64 1]]]) (Same.a (xs:=[_,_,_,_,_,_,_,_]) ⟨Same.refl _,Same.lf rfl,Same.refl _,Same.refl _,Same.lf rfl,Same.refl _,Same.lf rfl,Same.lf rfl,trivial⟩) (qZX (N:=60) qYE yU qVZ (by kernel_rfl))
 ·exact qZK (x:=.a [.n .i64 0,.l [],.n .i64 1,.n .i64 0,.l [],.n .i64 0,.l [],.l []]) (Same.a (xs:=[_,_,_,_,_,_,_,_]) ⟨Same.refl _,Same.lf rfl,Same.refl _,Same.refl _,Same.lf rfl,Same.refl _,Same.lf rfl,Same.lf rfl,trivial⟩) (qZX (N:=60) qYE yU qVZ (by kernel_rfl))
def ccl:Int→Prop:=fun t=>match t with | x=>0≤x∧x≤3
def ecl:Int→List PV:=fun t=>match t with | x=>[.n .i64 x]
noncomputable def rcl:Int→Ret:=fun t=>match t with | x=>.v (.a [.n .i64 (clK x),.lf (clA x) clF,.n .i64 (clD x),.n .i64 0,.lf 0 clG,.n .i64 0,.lf (clB x) clG,.lf (clB x) clG])
def dcl:List PV→Int:=fun ps=>match ps with
 | [.n _ x]=>x
 | _=>0
noncomputable def o_cl:List PV→Option (Bool × Ret):=o_fm dcl ccl ecl rcl
theorem kQA:uJ Try.prog 31 o_cl:=qQG fun t h=>by
 revert h; revert t; intro x h
 exact jUY x h
noncomputable def org0 (N _:Nat) (e:Nat→Int):OrS:=orS [(31,o_cl)] [(30,o_nx)]
def gsF (x:Int):Int:=(bif (decide (x=0)) then 0 else (bif (decide ((x - 1)=0)) then 0 else (bif (decide (((x - 1) - 1)=0)) then 1 else (bif (decide ((((x - 1) - 1) - 1)=0)) then 1 else (bif (decide (((((x - 1) - 1) - 1) - 1)=0)) then 1 else (bif (decide ((((((x - 1) - 1) - 1) - 1) - 1)=0)) then 2 else (bif (decide (((((((x - 1) - 1) - 1) - 1) - 1) - 1)=0)) then 3 else 1)))))))
noncomputable def hg0 (N wl:Nat) (e:Nat→Int) (i:Int) (rn:Nat) (f:Nat→List PV):St:=⟨[(2,.p 2 0),(3,.p 11 0),(4,.p 4 0),(5,.v (.n .i64 (vYX .i64 (2 + (nxV e wl 0 8))))),(6,.v (.n .i64 i))],[(2,.blk [.nl,.nl]),(4,.blk [.o 25,.nl]),(11,.blk [.v (.lf wl (fQ e)),.v (.n .i64 ((mA wl 0 1:Nat):Int))]),(25,.reg 26 1 (.fo rn f))]⟩
set_option maxRecDepth 100000 in
theorem rdg0 (G:St→Option (Ret × Mem)) (K:Cont) (N wl:Nat) (e:Nat→Int) (i:Int) (rn:Nat) (f:Nat→List PV):yJ (N + 10) (cxS Tf (org0 N wl e) (N + 10) 11 (ntmF Tf 11)) (evX Tf (org0 N wl e) (N + 10) 11 (ntmF Tf 11)) (qY []) (qQ Tf 11 [0,1,0,1,1,1,1]) [0,1,0,1,1,1,1] (Tf.hint 11 (qJ (qQ Tf 11 [0,1,0,1,1,1,1]))) K G (hg0 N wl e i rn f) =
 (bif (decide (i < (vYX .i64 (2 + (nxV e wl 0 8))))) then (bif (decide (rn + 1≤1000000)) then (G (hg0 N wl e (vYX .i64 (i + 1)) (rn + 1) (fun v=>kX (Nat.beq v rn) [.l [[.n .i64 i]]] (f v))))
 else none)
 else (K (.exit 0) ⟨[(2,.p 2 0),(3,.p 11 0),(4,.p 4 0),(5,.v (.n .i64 (vYX .i64 (2 + (nxV e wl 0 8)))))],[(2,.blk [.nl,.nl]),(4,.blk [.o 25,.nl]),(11,.blk [.v (.lf wl (fQ e)),.v (.n .i64 ((mA wl 0 1:Nat):Int))]),(25,.reg 26 1 (.fo rn f))]⟩)):=by kernel_rfl
noncomputable def dcg0 (wl:Nat) (e:Nat→Int):(Int × Nat × (Nat→List PV))→(Int × Nat × (Nat→List PV)) ⊕ (Nat × Int × Nat × (Nat→List PV)):=fun t=>match t with | (i,rn,f)=>(bif (decide (i < (vYX .i64 (2 + (nxV e wl 0 8))))) then (bif (decide (rn + 1≤1000000)) then (.inl ((vYX .i64 (i + 1)),(rn + 1),(fun v=>kX (Nat.beq v rn) [.l [[.n .i64 i]]] (f v)))) else (.inr (1,(i,rn,f)))) else (.inr (0,(i,rn,f))))
noncomputable def kxg0 (N wl:Nat) (e:Nat→Int) (K:Cont) (w9:Nat × Int × Nat × (Nat→List PV)):Option (Ret × Mem):=bif Nat.beq w9.1 0 then (K (.exit 0) ⟨[(2,.p 2 0),(3,.p 11 0),(4,.p 4 0),(5,.v (.n .i64 (vYX .i64 (2 + (nxV e wl 0 8)))))],[(2,.blk [.nl,.nl]),(4,.blk [.o 25,.nl]),(11,.blk [.v (.lf wl (fQ e)),.v (.n .i64 ((mA wl 0 1:Nat):Int))]),(25,.reg 26 1 (.fo w9.2.2.1 w9.2.2.2))]⟩) else none
theorem wlg0 (K:Cont) (N wl:Nat) (e:Nat→Int):∀ n9 (t:(Int × Nat × (Nat→List PV))),LFX (N + 10) (cxS Tf (org0 N wl e) (N + 10) 11 (ntmF Tf 11)) (evX Tf (org0 N wl e) (N + 10) 11 (ntmF Tf 11)) (qY []) (qQ Tf 11 [0,1,0,1,1,1,1]) [0,1,0,1,1,1,1] (Tf.hint 11 (qJ (qQ Tf 11 [0,1,0,1,1,1,1]))) K n9 (hg0 N wl e t.1 t.2.1 t.2.2)=(qW (dcg0 wl e) n9 t).bind (kxg0 N wl e K):=fun n9 t=>by
 refine qQX (L:=LFX (N + 10) (cxS Tf (org0 N wl e) (N + 10) 11 (ntmF Tf 11)) (evX Tf (org0 N wl e) (N + 10) 11 (ntmF Tf 11)) (qY []) (qQ Tf 11 [0,1,0,1,1,1,1]) [0,1,0,1,1,1,1] (Tf.hint 11 (qJ (qQ Tf 11 [0,1,0,1,1,1,1]))) K) (stp:=yJ (N + 10) (cxS Tf (org0 N wl e) (N + 10) 11 (ntmF Tf 11)) (evX Tf (org0 N wl e) (N + 10) 11 (ntmF Tf 11)) (qY []) (qQ Tf 11 [0,1,0,1,1,1,1]) [0,1,0,1,1,1,1] (Tf.hint 11 (qJ (qQ Tf 11 [0,1,0,1,1,1,1]))) K) (fun _ _=>rfl) (fun _=>rfl) (fun t=>hg0 N wl e t.1 t.2.1 t.2.2) (fun _=>True) (dcg0 wl e) (kxg0 N wl e K) (fun G t _ => ?_) (fun _ _ _ _=>trivial) n9 t trivial;obtain ⟨i,rn,f⟩:=t;refine (rdg0 G K N wl e i rn f).trans ?_;dsimp only [dcg0];cases (decide (i < (vYX .i64 (2 + (nxV e wl 0 8)))))
 ·rfl
 ·cases (decide (rn + 1≤1000000))
  ·rfl
  ·rfl
noncomputable def yQX (N:Nat) (wl:Nat) (e:Nat→Int) (t:(Int × Nat × (Nat→List PV))):Bool:=(qW (dcg0 wl e) (N + 10) t).isSome
noncomputable def qZC (N:Nat) (wl:Nat) (e:Nat→Int) (t:(Int × Nat × (Nat→List PV))):Nat × Int × Nat × (Nat→List PV):=(qW (dcg0 wl e) (N + 10) t).getD (99,t)
theorem lwg0 (K:Cont) (N wl:Nat) (e:Nat→Int) (t:(Int × Nat × (Nat→List PV))) (hg:yQX N wl e t=true):LFX (N + 10) (cxS Tf (org0 N wl e) (N + 10) 11 (ntmF Tf 11)) (evX Tf (org0 N wl e) (N + 10) 11 (ntmF Tf 11)) (qY []) (qQ Tf 11 [0,1,0,1,1,1,1]) [0,1,0,1,1,1,1] (Tf.hint 11 (qJ (qQ Tf 11 [0,1,0,1,1,1,1]))) K (N + 10) (hg0 N wl e t.1 t.2.1 t.2.2)=kxg0 N wl e K (qZC N wl e t):=by
 refine (wlg0 K N wl e (N + 10) t).trans ?_;unfold yQX at hg;unfold qZC;cases h:qW (dcg0 wl e) (N + 10) t with
 | none=>rw [h] at hg; cases hg
 | some y=>rfl
noncomputable def hg2 (N wl:Nat) (e:Nat→Int) (x:Int) (y:Int) (m2:Nat) (pn:Nat) (pf:Nat→List PV) (rn:Nat) (f:Nat→List PV):St:=⟨[(2,.p 2 0),(3,.p 11 0),(4,.p 4 0),(5,.v (.n .i64 (vYX .i64 (2 + (nxV e wl 0 8))))),(7,.v (.n .i64 x)),(8,.v (.n .i64 y))],[(2,.blk [.nl,.nl]),(4,.blk [.o 25,.o 59]),(11,.blk [.v (.lf wl (fQ e)),.v (.n .i64 (m2:Int))]),(25,.reg 26 1 (.fo pn pf)),(59,.reg 66 12 (.fo rn f))]⟩
set_option maxRecDepth 100000 in
theorem rdg2 (G:St→Option (Ret × Mem)) (K:Cont) (N wl:Nat) (e:Nat→Int) (x:Int) (y:Int) (m2:Nat) (pn:Nat) (pf:Nat→List PV) (rn:Nat) (f:Nat→List PV):yJ (N + 10) (cxS Tf (org0 N wl e) (N + 10) 11 (ntmF Tf 11)) (evX Tf (org0 N wl e) (N + 10) 11 (ntmF Tf 11)) (qY []) (qQ Tf 11 [0,1,0,0,1,0,0,1,0,1,1,1,1,1]) [0,1,0,0,1,0,0,1,0,1,1,1,1,1] (Tf.hint 11 (qJ (qQ Tf 11 [0,1,0,0,1,0,0,1,0,1,1,1,1,1]))) K G (hg2 N wl e x y m2 pn pf rn f) =
 (bif (decide (y < (vYX .i64 (2 + (nxV e wl 0 8))))) then (bif (gB1 cnx hnx enx (wl,m2,e,5)) then (bif (decide ((nxV e wl m2 5) < 2)) then (bif (gB1 cnx hnx enx (wl,(mA wl m2 1),e,7)) then (bif (gB1 cnx hnx enx (wl,(mA wl m2 2),e,8)) then (bif (inB (nxV e wl (mA wl m2 2) 8) 8 && true) then (bif (gF1 ccl ecl (gsF (nxV e wl (mA wl m2 2) 8))) then (bif (decide (rn + 1≤1000000)) then (G (hg2 N wl e x (vYX .i64 (y + 1)) (mA wl m2 3) pn pf (rn + 1) (fun v=>kX (Nat.beq v rn) [.n .i64 x,.n .i64 y,.n .i64 (nxV e wl (mA wl m2 1) 7),.n .i64 (gsF (nxV e wl (mA wl m2 2) 8)),.n .i64 (clK (gsF (nxV e wl (mA wl m2 2) 8))),.lf (clA (gsF (nxV e wl (mA wl m2 2) 8))) clF,.n .i64 (clD (gsF (nxV e wl (mA wl m2 2) 8))),.n .i64 0,.lf 0 clG,.n .i64 0,.lf (clB (gsF (nxV e wl (mA wl m2 2) 8))) clG,.lf (clB (gsF (nxV e wl (mA wl m2 2) 8))) clG] (f v))))
 else none)
 else none)
 else none)
 else none)
 else none)
 else (G (hg2 N wl e x (vYX .i64 (y + 1)) (mA wl m2 1) pn pf rn f)))
 else none)
 else (K (.exit 4) ⟨[(2,.p 2 0),(3,.p 11 0),(4,.p 4 0),(5,.v (.n .i64 (vYX .i64 (2 + (nxV e wl 0 8))))),(7,.v (.n .i64 x))],[(2,.blk [.nl,.nl]),(4,.blk [.o 25,.o 59]),(11,.blk [.v (.lf wl (fQ e)),.v (.n .i64 (m2:Int))]),(25,.reg 26 1 (.fo pn pf)),(59,.reg 66 12 (.fo rn f))]⟩)):=by kernel_rfl
noncomputable def dcg2 (wl:Nat) (e:Nat→Int):(Int × Int × Nat × Nat × (Nat→List PV) × Nat × (Nat→List PV))→(Int × Int × Nat × Nat × (Nat→List PV) × Nat × (Nat→List PV)) ⊕ (Nat × Int × Int × Nat × Nat × (Nat→List PV) × Nat × (Nat→List PV)):=fun t=>match t with | (x,y,m2,pn,pf,rn,f)=>(bif (decide (y < (vYX .i64 (2 + (nxV e wl 0 8))))) then (bif (gB1 cnx hnx enx (wl,m2,e,5)) then (bif (decide ((nxV e wl m2 5) < 2)) then (bif (gB1 cnx hnx enx (wl,(mA wl m2 1),e,7)) then (bif (gB1 cnx hnx enx (wl,(mA wl m2 2),e,8)) then (bif (inB (nxV e wl (mA wl m2 2) 8) 8 && true) then (bif (gF1 ccl ecl (gsF (nxV e wl (mA wl m2 2) 8))) then (bif (decide (rn + 1≤1000000)) then (.inl (x,(vYX .i64 (y + 1)),(mA wl m2 3),pn,pf,(rn + 1),(fun v=>kX (Nat.beq v rn) [.n .i64 x,.n .i64 y,.n .i64 (nxV e wl (mA wl m2 1) 7),.n .i64 (gsF (nxV e wl (mA wl m2 2) 8)),.n .i64 (clK (gsF (nxV e wl (mA wl m2 2) 8))),.lf (clA (gsF (nxV e wl (mA wl m2 2) 8))) clF,.n .i64 (clD (gsF (nxV e wl (mA wl m2 2) 8))),.n .i64 0,.lf 0 clG,.n .i64 0,.lf (clB (gsF (nxV e wl (mA wl m2 2) 8))) clG,.lf (clB (gsF (nxV e wl (mA wl m2 2) 8))) clG] (f v)))) else (.inr (1,(x,y,m2,pn,pf,rn,f)))) else (.inr (1,(x,y,m2,pn,pf,rn,f)))) else (.inr (1,(x,y,m2,pn,pf,rn,f)))) else (.inr (1,(x,y,m2,pn,pf,rn,f)))) else (.inr (1,(x,y,m2,pn,pf,rn,f)))) else (.inl (x,(vYX .i64 (y + 1)),(mA wl m2 1),pn,pf,rn,f))) else (.inr (1,(x,y,m2,pn,pf,rn,f)))) else (.inr (0,(x,y,m2,pn,pf,rn,f))))
noncomputable def kxg2 (N wl:Nat) (e:Nat→Int) (K:Cont) (w9:Nat × Int × Int × Nat × Nat × (Nat→List PV) × Nat × (Nat→List PV)):Option (Ret × Mem):=bif Nat.beq w9.1 0 then (K (.exit 4) ⟨[(2,.p 2 0),(3,.p 11 0),(4,.p 4 0),(5,.v (.n .i64 (vYX .i64 (2 + (nxV e wl 0 8))))),(7,.v (.n .i64 w9.2.1))],[(2,.blk [.nl,.nl]),(4,.blk [.o 25,.o 59]),(11,.blk [.v (.lf wl (fQ e)),.v (.n .i64 (w9.2.2.2.1:Int))]),(25,.reg 26 1 (.fo w9.2.2.2.2.1 w9.2.2.2.2.2.1)),(59,.reg 66 12 (.fo w9.2.2.2.2.2.2.1 w9.2.2.2.2.2.2.2))]⟩) else none
theorem wlg2 (K:Cont) (N wl:Nat) (e:Nat→Int):∀ n9 (t:(Int × Int × Nat × Nat × (Nat→List PV) × Nat × (Nat→List PV))),LFX (N + 10) (cxS Tf (org0 N wl e) (N + 10) 11 (ntmF Tf 11)) (evX Tf (org0 N wl e) (N + 10) 11 (ntmF Tf 11)) (qY []) (qQ Tf 11 [0,1,0,0,1,0,0,1,0,1,1,1,1,1]) [0,1,0,0,1,0,0,1,0,1,1,1,1,1] (Tf.hint 11 (qJ (qQ Tf 11 [0,1,0,0,1,0,0,1,0,1,1,1,1,1]))) K n9 (hg2 N wl e t.1 t.2.1 t.2.2.1 t.2.2.2.1 t.2.2.2.2.1 t.2.2.2.2.2.1 t.2.2.2.2.2.2)=(qW (dcg2 wl e) n9 t).bind (kxg2 N wl e K):=fun n9 t=>by
 refine qQX (L:=LFX (N + 10) (cxS Tf (org0 N wl e) (N + 10) 11 (ntmF Tf 11)) (evX Tf (org0 N wl e) (N + 10) 11 (ntmF Tf 11)) (qY []) (qQ Tf 11 [0,1,0,0,1,0,0,1,0,1,1,1,1,1]) [0,1,0,0,1,0,0,1,0,1,1,1,1,1] (Tf.hint 11 (qJ (qQ Tf 11 [0,1,0,0,1,0,0,1,0,1,1,1,1,1]))) K) (stp:=yJ (N + 10) (cxS Tf (org0 N wl e) (N + 10) 11 (ntmF Tf 11)) (evX Tf (org0 N wl e) (N + 10) 11 (ntmF Tf 11)) (qY []) (qQ Tf 11 [0,1,0,0,1,0,0,1,0,1,1,1,1,1]) [0,1,0,0,1,0,0,1,0,1,1,1,1,1] (Tf.hint 11 (qJ (qQ Tf 11 [0,1,0,0,1,0,0,1,0,1,1,1,1,1]))) K) (fun _ _=>rfl) (fun _=>rfl) (fun t=>hg2 N wl e t.1 t.2.1 t.2.2.1 t.2.2.2.1 t.2.2.2.2.1 t.2.2.2.2.2.1 t.2.2.2.2.2.2) (fun _=>True) (dcg2 wl e) (kxg2 N wl e K) (fun G t _ => ?_) (fun _ _ _ _=>trivial) n9 t trivial;obtain ⟨x,y,m2,pn,pf,rn,f⟩:=t;refine (rdg2 G K N wl e x y m2 pn pf rn f).trans ?_;dsimp only [dcg2];cases (decide (y < (vYX .i64 (2 + (nxV e wl 0 8)))))
 ·rfl
 ·cases (gB1 cnx hnx enx (wl,m2,e,5))
  ·rfl
  ·cases (decide ((nxV e wl m2 5) < 2))
   ·rfl
   ·cases (gB1 cnx hnx enx (wl,(mA wl m2 1),e,7))
    ·rfl
    ·cases (gB1 cnx hnx enx (wl,(mA wl m2 2),e,8))
     ·rfl
     ·cases (inB (nxV e wl (mA wl m2 2) 8) 8 && true)
      ·rfl
      ·cases (gF1 ccl ecl (gsF (nxV e wl (mA wl m2 2) 8)))
       ·rfl
       ·cases (decide (rn + 1≤1000000))
        ·rfl
        ·rfl
noncomputable def qJL (N:Nat) (wl:Nat) (e:Nat→Int) (t:(Int × Int × Nat × Nat × (Nat→List PV) × Nat × (Nat→List PV))):Bool:=(qW (dcg2 wl e) (N + 10) t).isSome
noncomputable def qQB (N:Nat) (wl:Nat) (e:Nat→Int) (t:(Int × Int × Nat × Nat × (Nat→List PV) × Nat × (Nat→List PV))):Nat × Int × Int × Nat × Nat × (Nat→List PV) × Nat × (Nat→List PV):=(qW (dcg2 wl e) (N + 10) t).getD (99,t)
theorem lwg2 (K:Cont) (N wl:Nat) (e:Nat→Int) (t:(Int × Int × Nat × Nat × (Nat→List PV) × Nat × (Nat→List PV))) (hg:qJL N wl e t=true):LFX (N + 10) (cxS Tf (org0 N wl e) (N + 10) 11 (ntmF Tf 11)) (evX Tf (org0 N wl e) (N + 10) 11 (ntmF Tf 11)) (qY []) (qQ Tf 11 [0,1,0,0,1,0,0,1,0,1,1,1,1,1]) [0,1,0,0,1,0,0,1,0,1,1,1,1,1] (Tf.hint 11 (qJ (qQ Tf 11 [0,1,0,0,1,0,0,1,0,1,1,1,1,1]))) K (N + 10) (hg2 N wl e t.1 t.2.1 t.2.2.1 t.2.2.2.1 t.2.2.2.2.1 t.2.2.2.2.2.1 t.2.2.2.2.2.2)=kxg2 N wl e K (qQB N wl e t):=by
 refine (wlg2 K N wl e (N + 10) t).trans ?_;unfold qJL at hg;unfold qQB;cases h:qW (dcg2 wl e) (N + 10) t with
 | none=>rw [h] at hg; cases hg
 | some y=>rfl
theorem okg2 (N wl:Nat) (e:Nat→Int):∀ p S,qY [([0,1,0,0,1,0,0,1,0,1,1,1,1,1],sumF (fun t:(Int × Int × Nat × Nat × (Nat→List PV) × Nat × (Nat→List PV))=>(hg2 N wl e t.1 t.2.1 t.2.2.1 t.2.2.2.1 t.2.2.2.2.1 t.2.2.2.2.2.1 t.2.2.2.2.2.2)) (fun σ=>(slI σ 7,slI σ 8,(bkC σ 11 1).toNat,rgN σ 25,rgF σ 25,rgN σ 59,rgF σ 59)) (fun t K=>(bif qJL N wl e t then kxg2 N wl e K (qQB N wl e t) else none)))] p=some S→kU (N + 10) (cxS Tf (org0 N wl e) (N + 10) 11 (ntmF Tf 11)) (qQ Tf 11 p) S:=fun p S hp=>by
 refine qX (L:=qQ Tf 11) (l:=[([0,1,0,0,1,0,0,1,0,1,1,1,1,1],sumF (fun t:(Int × Int × Nat × Nat × (Nat→List PV) × Nat × (Nat→List PV))=>(hg2 N wl e t.1 t.2.1 t.2.2.1 t.2.2.2.1 t.2.2.2.2.1 t.2.2.2.2.2.1 t.2.2.2.2.2.2)) (fun σ=>(slI σ 7,slI σ 8,(bkC σ 11 1).toNat,rgN σ 25,rgF σ 25,rgN σ 59,rgF σ 59)) (fun t K=>(bif qJL N wl e t then kxg2 N wl e K (qQB N wl e t) else none)))]) ⟨?_,trivial⟩ p S hp;dsimp only;refine yK (T:=Tf) (o:=(org0 N wl e)) (f:=11) (LO:=qY []) (p:=[0,1,0,0,1,0,0,1,0,1,1,1,1,1]) jQ ?_;intro t K r hr;obtain ⟨hg,hr⟩:=qZ hr
 skip
 exact (lwg2 K N wl e t hg).trans hr
noncomputable def hg1 (N wl:Nat) (e:Nat→Int) (x:Int) (m2:Nat) (pn:Nat) (pf:Nat→List PV) (rn:Nat) (f:Nat→List PV):St:=⟨[(2,.p 2 0),(3,.p 11 0),(4,.p 4 0),(5,.v (.n .i64 (vYX .i64 (2 + (nxV e wl 0 8))))),(7,.v (.n .i64 x))],[(2,.blk [.nl,.nl]),(4,.blk [.o 25,.o 59]),(11,.blk [.v (.lf wl (fQ e)),.v (.n .i64 (m2:Int))]),(25,.reg 26 1 (.fo pn pf)),(59,.reg 66 12 (.fo rn f))]⟩
set_option maxRecDepth 100000 in
theorem rdg1 (G:St→Option (Ret × Mem)) (K:Cont) (N wl:Nat) (e:Nat→Int) (x:Int) (m2:Nat) (pn:Nat) (pf:Nat→List PV) (rn:Nat) (f:Nat→List PV):yJ (N + 10) (cxS Tf (org0 N wl e) (N + 10) 11 (ntmF Tf 11)) (evX Tf (org0 N wl e) (N + 10) 11 (ntmF Tf 11)) (qY [([0,1,0,0,1,0,0,1,0,1,1,1,1,1],sumF (fun t:(Int × Int × Nat × Nat × (Nat→List PV) × Nat × (Nat→List PV))=>(hg2 N wl e t.1 t.2.1 t.2.2.1 t.2.2.2.1 t.2.2.2.2.1 t.2.2.2.2.2.1 t.2.2.2.2.2.2)) (fun σ=>(slI σ 7,slI σ 8,(bkC σ 11 1).toNat,rgN σ 25,rgF σ 25,rgN σ 59,rgF σ 59)) (fun t K=>(bif qJL N wl e t then kxg2 N wl e K (qQB N wl e t) else none)))]) (qQ Tf 11 [0,1,0,1,1,1,1,1]) [0,1,0,1,1,1,1,1] (Tf.hint 11 (qJ (qQ Tf 11 [0,1,0,1,1,1,1,1]))) K G (hg1 N wl e x m2 pn pf rn f) =
 (bif (decide (x < (vYX .i64 (2 + (nxV e wl 0 8))))) then (bif (gSt (hg2 N wl e x (vYX .i64 (x + 1)) m2 pn pf rn f) (hg2 N wl e x (vYX .i64 (x + 1)) m2 pn pf rn f)) then (bif (qJL N wl e (x,(vYX .i64 (x + 1)),m2,pn,pf,rn,f)) then (bif (Nat.beq (qQB N wl e (x,(vYX .i64 (x + 1)),m2,pn,pf,rn,f)).1 0) then (G (hg1 N wl e (vYX .i64 ((qQB N wl e (x,(vYX .i64 (x + 1)),m2,pn,pf,rn,f)).2.1 + 1)) ((qQB N wl e (x,(vYX .i64 (x + 1)),m2,pn,pf,rn,f)).2.2.2.1) (qQB N wl e (x,(vYX .i64 (x + 1)),m2,pn,pf,rn,f)).2.2.2.2.1 (qQB N wl e (x,(vYX .i64 (x + 1)),m2,pn,pf,rn,f)).2.2.2.2.2.1 (qQB N wl e (x,(vYX .i64 (x + 1)),m2,pn,pf,rn,f)).2.2.2.2.2.2.1 (qQB N wl e (x,(vYX .i64 (x + 1)),m2,pn,pf,rn,f)).2.2.2.2.2.2.2))
 else none)
 else none)
 else none)
 else (K (.exit 2) ⟨[(2,.p 2 0),(4,.p 4 0)],[(2,.blk [.nl,.nl]),(4,.blk [.o 25,.o 59]),(25,.reg 26 1 (.fo pn pf)),(59,.reg 66 12 (.fo rn f))]⟩)):=by kernel_rfl
noncomputable def dcg1 (N wl:Nat) (e:Nat→Int):(Int × Nat × Nat × (Nat→List PV) × Nat × (Nat→List PV))→(Int × Nat × Nat × (Nat→List PV) × Nat × (Nat→List PV)) ⊕ (Nat × Int × Nat × Nat × (Nat→List PV) × Nat × (Nat→List PV)):=fun t=>match t with | (x,m2,pn,pf,rn,f)=>(bif (decide (x < (vYX .i64 (2 + (nxV e wl 0 8))))) then (bif (gSt (hg2 N wl e x (vYX .i64 (x + 1)) m2 pn pf rn f) (hg2 N wl e x (vYX .i64 (x + 1)) m2 pn pf rn f)) then (bif (qJL N wl e (x,(vYX .i64 (x + 1)),m2,pn,pf,rn,f)) then (bif (Nat.beq (qQB N wl e (x,(vYX .i64 (x + 1)),m2,pn,pf,rn,f)).1 0) then (.inl ((vYX .i64 ((qQB N wl e (x,(vYX .i64 (x + 1)),m2,pn,pf,rn,f)).2.1 + 1)),((qQB N wl e (x,(vYX .i64 (x + 1)),m2,pn,pf,rn,f)).2.2.2.1),(qQB N wl e (x,(vYX .i64 (x + 1)),m2,pn,pf,rn,f)).2.2.2.2.1,(qQB N wl e (x,(vYX .i64 (x + 1)),m2,pn,pf,rn,f)).2.2.2.2.2.1,(qQB N wl e (x,(vYX .i64 (x + 1)),m2,pn,pf,rn,f)).2.2.2.2.2.2.1,(qQB N wl e (x,(vYX .i64 (x + 1)),m2,pn,pf,rn,f)).2.2.2.2.2.2.2)) else (.inr (1,(x,m2,pn,pf,rn,f)))) else (.inr (1,(x,m2,pn,pf,rn,f)))) else (.inr (1,(x,m2,pn,pf,rn,f)))) else (.inr (0,(x,m2,pn,pf,rn,f))))
noncomputable def kxg1 (N _:Nat) (e:Nat→Int) (K:Cont) (w9:Nat × Int × Nat × Nat × (Nat→List PV) × Nat × (Nat→List PV)):Option (Ret × Mem):=bif Nat.beq w9.1 0 then (K (.exit 2) ⟨[(2,.p 2 0),(4,.p 4 0)],[(2,.blk [.nl,.nl]),(4,.blk [.o 25,.o 59]),(25,.reg 26 1 (.fo w9.2.2.2.1 w9.2.2.2.2.1)),(59,.reg 66 12 (.fo w9.2.2.2.2.2.1 w9.2.2.2.2.2.2))]⟩) else none
theorem wlg1 (K:Cont) (N wl:Nat) (e:Nat→Int):∀ n9 (t:(Int × Nat × Nat × (Nat→List PV) × Nat × (Nat→List PV))),LFX (N + 10) (cxS Tf (org0 N wl e) (N + 10) 11 (ntmF Tf 11)) (evX Tf (org0 N wl e) (N + 10) 11 (ntmF Tf 11)) (qY [([0,1,0,0,1,0,0,1,0,1,1,1,1,1],sumF (fun t:(Int × Int × Nat × Nat × (Nat→List PV) × Nat × (Nat→List PV))=>(hg2 N wl e t.1 t.2.1 t.2.2.1 t.2.2.2.1 t.2.2.2.2.1 t.2.2.2.2.2.1 t.2.2.2.2.2.2)) (fun σ=>(slI σ 7,slI σ 8,(bkC σ 11 1).toNat,rgN σ 25,rgF σ 25,rgN σ 59,rgF σ 59)) (fun t K=>(bif qJL N wl e t then kxg2 N wl e K (qQB N wl e t) else none)))]) (qQ Tf 11 [0,1,0,1,1,1,1,1]) [0,1,0,1,1,1,1,1] (Tf.hint 11 (qJ (qQ Tf 11 [0,1,0,1,1,1,1,1]))) K n9 (hg1 N wl e t.1 t.2.1 t.2.2.1 t.2.2.2.1 t.2.2.2.2.1 t.2.2.2.2.2)=(qW (dcg1 N wl e) n9 t).bind (kxg1 N wl e K):=fun n9 t=>by
 refine qQX (L:=LFX (N + 10) (cxS Tf (org0 N wl e) (N + 10) 11 (ntmF Tf 11)) (evX Tf (org0 N wl e) (N + 10) 11 (ntmF Tf 11)) (qY [([0,1,0,0,1,0,0,1,0,1,1,1,1,1],sumF (fun t:(Int × Int × Nat × Nat × (Nat→List PV) × Nat × (Nat→List PV))=>(hg2 N wl e t.1 t.2.1 t.2.2.1 t.2.2.2.1 t.2.2.2.2.1 t.2.2.2.2.2.1 t.2.2.2.2.2.2)) (fun σ=>(slI σ 7,slI σ 8,(bkC σ 11 1).toNat,rgN σ 25,rgF σ 25,rgN σ 59,rgF σ 59)) (fun t K=>(bif qJL N wl e t then kxg2 N wl e K (qQB N wl e t) else none)))]) (qQ Tf 11 [0,1,0,1,1,1,1,1]) [0,1,0,1,1,1,1,1] (Tf.hint 11 (qJ (qQ Tf 11 [0,1,0,1,1,1,1,1]))) K) (stp:=yJ (N + 10) (cxS Tf (org0 N wl e) (N + 10) 11 (ntmF Tf 11)) (evX Tf (org0 N wl e) (N + 10) 11 (ntmF Tf 11)) (qY [([0,1,0,0,1,0,0,1,0,1,1,1,1,1],sumF (fun t:(Int × Int × Nat × Nat × (Nat→List PV) × Nat × (Nat→List PV))=>(hg2 N wl e t.1 t.2.1 t.2.2.1 t.2.2.2.1 t.2.2.2.2.1 t.2.2.2.2.2.1 t.2.2.2.2.2.2)) (fun σ=>(slI σ 7,slI σ 8,(bkC σ 11 1).toNat,rgN σ 25,rgF σ 25,rgN σ 59,rgF σ 59)) (fun t K=>(bif qJL N wl e t then kxg2 N wl e K (qQB N wl e t) else none)))]) (qQ Tf 11 [0,1,0,1,1,1,1,1]) [0,1,0,1,1,1,1,1] (Tf.hint 11 (qJ (qQ Tf 11 [0,1,0,1,1,1,1,1]))) K) (fun _ _=>rfl) (fun _=>rfl) (fun t=>hg1 N wl e t.1 t.2.1 t.2.2.1 t.2.2.2.1 t.2.2.2.2.1 t.2.2.2.2.2) (fun _=>True) (dcg1 N wl e) (kxg1 N wl e K) (fun G t _ => ?_) (fun _ _ _ _=>trivial) n9 t trivial;obtain ⟨x,m2,pn,pf,rn,f⟩:=t;refine (rdg1 G K N wl e x m2 pn pf rn f).trans ?_;dsimp only [dcg1];cases (decide (x < (vYX .i64 (2 + (nxV e wl 0 8)))))
 ·rfl
 ·cases (gSt (hg2 N wl e x (vYX .i64 (x + 1)) m2 pn pf rn f) (hg2 N wl e x (vYX .i64 (x + 1)) m2 pn pf rn f))
  ·rfl
  ·cases (qJL N wl e (x,(vYX .i64 (x + 1)),m2,pn,pf,rn,f))
   ·rfl
   ·cases (Nat.beq (qQB N wl e (x,(vYX .i64 (x + 1)),m2,pn,pf,rn,f)).1 0)
    ·rfl
    ·rfl
noncomputable def yQU (N:Nat) (N wl:Nat) (e:Nat→Int) (t:(Int × Nat × Nat × (Nat→List PV) × Nat × (Nat→List PV))):Bool:=(qW (dcg1 N wl e) (N + 10) t).isSome
noncomputable def qHV (N:Nat) (N wl:Nat) (e:Nat→Int) (t:(Int × Nat × Nat × (Nat→List PV) × Nat × (Nat→List PV))):Nat × Int × Nat × Nat × (Nat→List PV) × Nat × (Nat→List PV):=(qW (dcg1 N wl e) (N + 10) t).getD (99,t)
theorem lwg1 (K:Cont) (N wl:Nat) (e:Nat→Int) (t:(Int × Nat × Nat × (Nat→List PV) × Nat × (Nat→List PV))) (hg:yQU N N wl e t=true):LFX (N + 10) (cxS Tf (org0 N wl e) (N + 10) 11 (ntmF Tf 11)) (evX Tf (org0 N wl e) (N + 10) 11 (ntmF Tf 11)) (qY [([0,1,0,0,1,0,0,1,0,1,1,1,1,1],sumF (fun t:(Int × Int × Nat × Nat × (Nat→List PV) × Nat × (Nat→List PV))=>(hg2 N wl e t.1 t.2.1 t.2.2.1 t.2.2.2.1 t.2.2.2.2.1 t.2.2.2.2.2.1 t.2.2.2.2.2.2)) (fun σ=>(slI σ 7,slI σ 8,(bkC σ 11 1).toNat,rgN σ 25,rgF σ 25,rgN σ 59,rgF σ 59)) (fun t K=>(bif qJL N wl e t then kxg2 N wl e K (qQB N wl e t) else none)))]) (qQ Tf 11 [0,1,0,1,1,1,1,1]) [0,1,0,1,1,1,1,1] (Tf.hint 11 (qJ (qQ Tf 11 [0,1,0,1,1,1,1,1]))) K (N + 10) (hg1 N wl e t.1 t.2.1 t.2.2.1 t.2.2.2.1 t.2.2.2.2.1 t.2.2.2.2.2)=kxg1 N wl e K (qHV N N wl e t):=by
 refine (wlg1 K N wl e (N + 10) t).trans ?_;unfold yQU at hg;unfold qHV;cases h:qW (dcg1 N wl e) (N + 10) t with
 | none=>rw [h] at hg; cases hg
 | some y=>rfl
def zP:Nat→List PV:=fun _=>[.zs]
def zE:Nat→List PV:=fun _=>[.n .i64 0,.n .i64 0,.n .i64 0,.n .i64 0,.n .i64 0,.zs,.n .i64 0,.n .i64 0,.zs,.n .i64 0,.zs,.zs]
theorem kZK (x:Int):0≤gsF x∧gsF x≤3:=by
 unfold gsF;cases decide (x=0) <;> cases decide (x - 1=0) <;> cases decide (x - 1 - 1=0) <;> cases decide (x - 1 - 1 - 1=0) <;> cases decide (x - 1 - 1 - 1 - 1=0) <;> cases decide (x - 1 - 1 - 1 - 1 - 1=0) <;> cases decide (x - 1 - 1 - 1 - 1 - 1 - 1=0) <;> simp only [vYQ,vYZ] <;> omega
def pusR (f:Nat→List PV) (rn:Nat) (c:List PV):Nat→List PV:=fun v=>kX (Nat.beq v rn) c (f v)
theorem jUV (f:Nat→List PV) (rn:Nat) (c:List PV):pusR f rn c rn=c:=by
 unfold pusR; rw [Nat.beq_refl,qXU]
theorem jZY {f:Nat→List PV} {rn v:Nat} {c:List PV} (h:v ≠ rn):pusR f rn c v=f v:=by
 have hb:Nat.beq v rn=false:=by
  cases hb:Nat.beq v rn with
  | false=>rfl
  | true=>exact absurd (vQU hb) h
 unfold pusR;rw [hb,qXX]
def LX (a b c d:Int):Prop:=a < c ∨ (a=c∧b < d)
structure GI (n x y rn:Nat) (f:Nat→List PV) (ed:Nat→Ed):Prop where
 row:∀ v,v < rn→f v=edP (ed v)
 ok:∀ v,v < rn→0≤(ed v).u∧(ed v).u < (ed v).v∧(ed v).v < (n:Int)∧0≤(ed v).c∧(ed v).c≤6
 so:∀ v,v + 1 < rn→LX (ed v).u (ed v).v (ed (v + 1)).u (ed (v + 1)).v
 la:∀ v,v < rn→LX (ed v).u (ed v).v x y
def pusE (ed:Nat→Ed) (rn:Nat) (c:Ed):Nat→Ed:=fun v=>if v=rn then c else ed v
theorem GI.push {n x y rn:Nat} {f:Nat→List PV} {ed:Nat→Ed} (h:GI n x y rn f ed) {c:Ed} (hu:c.u=x) (hv:c.v=y) (_:x < y) (_:y < n) (_:0≤c.c∧c.c≤6):GI n x (y + 1) (rn + 1) (pusR f rn (edP c)) (pusE ed rn c) where
 row:=fun v hv=>by
  by_cases e:v=rn
  ·subst e; rw [jUV]; unfold pusE; rw [if_pos rfl]
  ·rw [jZY e,h.row v (by omega)]; unfold pusE; rw [if_neg e]
 ok:=fun v hl=>by
  unfold pusE;by_cases e:v=rn
  ·rw [if_pos e]; omega
  ·rw [if_neg e]; exact h.ok v (by omega)
 so:=fun v hl=>by
  unfold pusE;rw [if_neg (show v ≠ rn by omega)];by_cases e:v + 1=rn
  ·rw [if_pos e,hu,hv]; exact h.la v (by omega)
  ·rw [if_neg e]; exact h.so v (by omega)
 la:=fun v hl=>by
  unfold pusE;by_cases e:v=rn
  ·rw [if_pos e]; unfold LX; omega
  ·rw [if_neg e]
   have:=h.la v (by omega)
   unfold LX at this ⊢; omega
theorem GI.skip {n x y rn:Nat} {f:Nat→List PV} {ed:Nat→Ed} (h:GI n x y rn f ed):GI n x (y + 1) rn f ed:=⟨h.row,h.ok,h.so,fun v hl=>by
 have:=h.la v hl
 unfold LX at this ⊢; omega⟩
theorem GI.next {n x rn:Nat} {f:Nat→List PV} {ed:Nat→Ed} (h:GI n x n rn f ed) (y:Nat):GI n (x + 1) y rn f ed:=⟨h.row,h.ok,h.so,fun v hl=>by
 have h1:=h.la v hl;have h2:=h.ok v hl;unfold LX at h1 ⊢; omega⟩
section
variable {wl:Nat} {e:Nat→Int} {n:Nat} (hn:vYX .i64 (2 + nxV e wl 0 8)=(n:Int)) (h9:n≤9)
include hn h9
theorem jWA:∀ (d x:Nat) (f:Nat→List PV) (M:Nat),x + d=n→d < M→∃ f',qW (dcg0 wl e) M ((x:Int),x,f)=some (0,(n:Int),n,f')
 | _,_,_,0,_,h=>by omega
 | 0,x,f,M + 1,hd,_=>by
  obtain rfl:x=n:=by omega
  refine ⟨f,?_⟩;rw [qW];dsimp only [dcg0];rw [hn,vYY (by omega)]; rfl
 | d + 1,x,f,M + 1,hd,hM=>by
  rw [qW];dsimp only [dcg0];rw [hn,vYJ (show (x:Int) < (n:Int) by omega),uK (show x < 1000000 by omega),vYJ (show x + 1≤1000000 by omega)];exact jWA d (x + 1) _ M (by omega) (by omega)
end
section
variable {wl:Nat} {e:Nat→Int} (hw:wl≤9223372036854775807) {n:Nat} (hn:vYX .i64 (2 + nxV e wl 0 8)=(n:Int)) (h9:n≤9)
include hw hn h9
theorem jJU {x pn:Nat} {pf:Nat→List PV}:∀ (d y m2 rn:Nat) (f:Nat→List PV) (ed:Nat→Ed) (M:Nat),y + d=n→d < M→x < y→m2≤wl→rn≤9 * x + y→rn≤1000→GI n x y rn f ed→∃ m' rn' f' ed',qW (dcg2 wl e) M ((x:Int),(y:Int),m2,pn,pf,rn,f)=some (0,(x:Int),(n:Int),m',pn,pf,rn',f')∧m'≤wl∧rn'≤9 * x + n∧GI n x n rn' f' ed'
 | _,_,_,_,_,_,0,_,h,_,_,_,_,_=>by omega
 | 0,y,m2,rn,f,ed,M + 1,hd,_,hx,hm,hr,_,hI=>by
  obtain rfl:y=n:=by omega
  refine ⟨m2,rn,f,ed,?_,hm,hr,hI⟩;rw [qW];dsimp only [dcg2];rw [hn,vYY (by omega)]; rfl
 | d + 1,y,m2,rn,f,ed,M + 1,hd,hM,hx,hm,hr,hr1,hI=>by
  rw [qW];dsimp only [dcg2];rw [hn,vYJ (show (y:Int) < (n:Int) by omega),qGE (C:=cnx) (t:=(wl,m2,e,5)) ⟨hm,hw,by decide,by decide⟩,uK (show y < 1000000 by omega),vYQ,vYQ];by_cases hc:nxV e wl m2 5 < 2
  ·have b8:=jYI (e:=e) (w:=wl) (m:=mA wl m2 2) (k:=8) (by decide);have b7:=jYI (e:=e) (w:=wl) (m:=mA wl m2 1) (k:=7) (by decide);have i8:inB (nxV e wl (mA wl m2 2) 8) 8=true:=by unfold inB; rw [vYJ b8.1,vYJ (by omega)]; rfl
   rw [vYJ hc,qGE (C:=cnx) (t:=(wl,mA wl m2 1,e,7)) ⟨yYF hm 1,hw,by decide,by decide⟩,qGE (C:=cnx) (t:=(wl,mA wl m2 2,e,8)) ⟨yYF hm 2,hw,by decide,by decide⟩,i8,jJ (C:=ccl) (t:=gsF _) (kZK _),vYJ (show rn + 1≤1000000 by omega)];simp only [vYQ,Bool.and_true];have hp:=hI.push (c:=⟨x,y,nxV e wl (mA wl m2 1) 7,gsF (nxV e wl (mA wl m2 2) 8),clK (gsF (nxV e wl (mA wl m2 2) 8)),clD (gsF (nxV e wl (mA wl m2 2) 8)),0,0,clA (gsF (nxV e wl (mA wl m2 2) 8)),clF,0,clG,clB (gsF (nxV e wl (mA wl m2 2) 8)),clG,clB (gsF (nxV e wl (mA wl m2 2) 8)),clG⟩) rfl rfl hx (by omega) (by dsimp only; omega);exact jJU d (y + 1) (mA wl m2 3) (rn + 1) _ _ M (by omega) (by omega) (by omega) (yYF hm 3) (by omega) (by omega) hp
  ·rw [vYY hc,vYZ];exact jJU d (y + 1) (mA wl m2 1) rn f ed M (by omega) (by omega) (by omega) (yYF hm 1) (by omega) hr1 hI.skip
theorem jWH {N pn:Nat} {pf:Nat→List PV} (hN:10≤N):∀ (d x m2 rn:Nat) (f:Nat→List PV) (ed:Nat→Ed) (M:Nat),x + d=n→d < M→m2≤wl→rn≤9 * x→GI n x (x + 1) rn f ed→∃ m' rn' f' ed',qW (dcg1 N wl e) M ((x:Int),m2,pn,pf,rn,f)=some (0,(n:Int),m',pn,pf,rn',f')∧rn'≤9 * n∧GI n n (n + 1) rn' f' ed'
 | _,_,_,_,_,_,0,_,h,_,_,_=>by omega
 | 0,x,m2,rn,f,ed,M + 1,hd,_,hm,hr,hI=>by
  obtain rfl:x=n:=by omega
  refine ⟨m2,rn,f,ed,?_,hr,hI⟩;rw [qW];dsimp only [dcg1];rw [hn,vYY (by omega)]; rfl
 | d + 1,x,m2,rn,f,ed,M + 1,hd,hM,hm,hr,hI=>by
  obtain ⟨m',rn',f',ed',q1,q2,q3,q4⟩:=jJU hw hn h9 (x:=x) (pn:=pn) (pf:=pf) (n - (x + 1)) (x + 1) m2 rn f ed (N + 10) (by omega) (by omega) (by omega) hm (by omega) (by omega) hI;have o1:qJL N wl e ((x:Int),((x + 1:Nat):Int),m2,pn,pf,rn,f)=true:=by unfold qJL; rw [q1]; rfl
  have o2:qQB N wl e ((x:Int),((x + 1:Nat):Int),m2,pn,pf,rn,f)=(0,(x:Int),(n:Int),m',pn,pf,rn',f'):=by unfold qQB; rw [q1]; rfl
  rw [qW];dsimp only [dcg1];rw [hn,vYJ (show (x:Int) < (n:Int) by omega),yY,uK (show x < 1000000 by omega),o1,o2];simp only [vYQ,uK (show x < 1000000 by omega)];exact jWH hN d (x + 1) m' rn' f' ed' M (by omega) (by omega) q2 (by omega) (q4.next (x + 1 + 1))
end
noncomputable def yVY (N wl:Nat) (e:Nat→Int):List (List Nat × zH):=[([0,1,0,1,1,1,1],sumF (fun t:(Int × Nat × (Nat→List PV))=>(hg0 N wl e t.1 t.2.1 t.2.2)) (fun σ=>(slI σ 6,rgN σ 25,rgF σ 25)) (fun t K=>(bif yQX N wl e t then kxg0 N wl e K (qZC N wl e t) else none))),([0,1,0,1,1,1,1,1],sumF (fun t:(Int × Nat × Nat × (Nat→List PV) × Nat × (Nat→List PV))=>(hg1 N wl e t.1 t.2.1 t.2.2.1 t.2.2.2.1 t.2.2.2.2.1 t.2.2.2.2.2)) (fun σ=>(slI σ 7,(bkC σ 11 1).toNat,rgN σ 25,rgF σ 25,rgN σ 59,rgF σ 59)) (fun t K=>(bif yQU N N wl e t then kxg1 N wl e K (qHV N N wl e t) else none)))]
set_option maxRecDepth 100000 in
theorem jHQ (N wl:Nat) (e:Nat→Int):qQY Tf (org0 N wl e) (qY (yVY N wl e)) (N + 10) 11 [.lf wl (fQ e)] =
 (bif (gB1 cnx hnx enx (wl,0,e,8)) then (bif (gSt (hg0 N wl e 0 0 zP) (hg0 N wl e 0 0 zP)) then (bif (yQX N wl e (0,0,zP)) then (bif (Nat.beq (qZC N wl e (0,0,zP)).1 0) then (bif (gSt (hg1 N wl e 0 (mA wl 0 1) (qZC N wl e (0,0,zP)).2.2.1 (qZC N wl e (0,0,zP)).2.2.2 0 zE) (hg1 N wl e 0 (mA wl 0 1) (qZC N wl e (0,0,zP)).2.2.1 (qZC N wl e (0,0,zP)).2.2.2 0 zE)) then (bif (yQU N N wl e (0,(mA wl 0 1),(qZC N wl e (0,0,zP)).2.2.1,(qZC N wl e (0,0,zP)).2.2.2,0,zE)) then (bif (Nat.beq (qHV N N wl e (0,(mA wl 0 1),(qZC N wl e (0,0,zP)).2.2.1,(qZC N wl e (0,0,zP)).2.2.2,0,zE)).1 0) then some (.v (.a [.lf (qHV N N wl e (0,(mA wl 0 1),(qZC N wl e (0,0,zP)).2.2.1,(qZC N wl e (0,0,zP)).2.2.2,0,zE)).2.2.2.1 (qHV N N wl e (0,(mA wl 0 1),(qZC N wl e (0,0,zP)).2.2.1,(qZC N wl e (0,0,zP)).2.2.2,0,zE)).2.2.2.2.1,.lf (qHV N N wl e (0,(mA wl 0 1),(qZC N wl e (0,0,zP)).2.2.1,(qZC N wl e (0,0,zP)).2.2.2,0,zE)).2.2.2.2.2.1 (qHV N N wl e (0,(mA wl 0 1),(qZC N wl e (0,0,zP)).2.2.1,(qZC N wl e (0,0,zP)).2.2.2,0,zE)).2.2.2.2.2.2]),[])
 else none)
 else none)
 else none)
 else none)
 else none)
 else none)
 else none):=by kernel_rfl
theorem jQV (N wl:Nat) (e:Nat→Int) {n m3 en:Nat} {pf ef:Nat→List PV} (hw:wl≤9223372036854775807) (h0:qW (dcg0 wl e) (N + 10) (0,0,zP)=some (0,(n:Int),n,pf)) (h1:qW (dcg1 N wl e) (N + 10) (0,mA wl 0 1,n,pf,0,zE)=some (0,(n:Int),m3,n,pf,en,ef)):yZ Try.prog 11 [.lf wl (fQ e)] (.v (.a [.lf n pf,.lf en ef])):=by
 refine qV (N:=(N + 10)) (LO:=qY (yVY N wl e)) yX yU (yV (l:=[(31,o_cl)]) (m:=[(30,o_nx)]) ⟨kQA,trivial⟩ ⟨kQQ,trivial⟩) (fun p S hp => ?_) ?_
 ·refine qX (L:=qQ Tf 11) (l:=(yVY N wl e)) (show AllP _ (yVY N wl e) from ⟨?_,?_,trivial⟩) p S hp
  ·dsimp only;refine yK (T:=Tf) (o:=(org0 N wl e)) (f:=11) (LO:=qY []) (p:=[0,1,0,1,1,1,1]) jQ ?_;intro t K r hr;obtain ⟨hg,hr⟩:=qZ hr
   skip
   exact (lwg0 K N wl e t hg).trans hr
  ·dsimp only;refine yK (T:=Tf) (o:=(org0 N wl e)) (f:=11) (LO:=(qY [([0,1,0,0,1,0,0,1,0,1,1,1,1,1],sumF (fun t:(Int × Int × Nat × Nat × (Nat→List PV) × Nat × (Nat→List PV))=>(hg2 N wl e t.1 t.2.1 t.2.2.1 t.2.2.2.1 t.2.2.2.2.1 t.2.2.2.2.2.1 t.2.2.2.2.2.2)) (fun σ=>(slI σ 7,slI σ 8,(bkC σ 11 1).toNat,rgN σ 25,rgF σ 25,rgN σ 59,rgF σ 59)) (fun t K=>(bif qJL N wl e t then kxg2 N wl e K (qQB N wl e t) else none)))])) (p:=[0,1,0,1,1,1,1,1]) (okg2 N wl e) ?_;intro t K r hr;obtain ⟨hg,hr⟩:=qZ hr
   skip
   exact (lwg1 K N wl e t hg).trans hr
 ·refine (jHQ N wl e).trans ?_;have o1:yQX N wl e (0,0,zP)=true:=by unfold yQX; rw [h0]; rfl
  have o2:qZC N wl e (0,0,zP)=(0,(n:Int),n,pf):=by unfold qZC; rw [h0]; rfl
  have o3:yQU N N wl e (0,mA wl 0 1,n,pf,0,zE)=true:=by unfold yQU; rw [h1]; rfl
  have o4:qHV N N wl e (0,mA wl 0 1,n,pf,0,zE)=(0,(n:Int),m3,n,pf,en,ef):=by unfold qHV; rw [h1]; rfl
  rw [qGE (C:=cnx) (t:=(wl,0,e,8)) ⟨Nat.zero_le _,hw,by decide,by decide⟩,yY,o1,o2];simp only [vYQ];rw [yY,o3,o4];rfl
def jGZ (g:Gr):Prop:=wfB g=true∧2≤g.np∧g.np≤9∧g.ne≤81∧∀ i,i < g.ne→0≤(g.ed i).c∧(g.ed i).c≤6
theorem kZU (wl:Nat) (e:Nat→Int) (hw:wl≤9223372036854775807):∃ g:Gr,yZ Try.prog 11 [.lf wl (fQ e)] (.v (.a (gP g)))∧jGZ g:=by
 have b:=jYI (e:=e) (w:=wl) (m:=0) (k:=8) (by decide);obtain ⟨n,hn,h2,h9⟩:∃ n:Nat,vYX .i64 (2 + nxV e wl 0 8)=(n:Int)∧2≤n∧n≤9:=⟨(2 + nxV e wl 0 8).toNat,by rw [jG (by omega)]; omega,by omega,by omega⟩
 obtain ⟨pf,h0⟩:=jWA hn h9 n 0 zP 30 (by omega) (by omega);obtain ⟨m3,en,ef,ed,h1,hr,hI⟩:=jWH hw hn h9 (N:=20) (pn:=n) (pf:=pf) (by decide) n 0 (mA wl 0 1) 0 zE (fun _=>unE []) 30 (by omega) (by omega) (yYF (Nat.zero_le _) 1) (by omega) ⟨fun v h=>absurd h (Nat.not_lt_zero v),fun v h=>absurd h (Nat.not_lt_zero v),fun v h=>absurd h (Nat.not_lt_zero _),fun v h=>absurd h (Nat.not_lt_zero v)⟩;have hs:=jQV 20 wl e hw h0 h1;refine ⟨⟨n,pf,en,ed⟩,qZK (Same.a (xs:=[_,_]) (ys:=[_,_]) ⟨Same.refl _,fun F w v h=>zZY (rows:=(List.range en).map (fE ed)) rfl (zZJ (List.map_congr_left fun v hv=>by rw [hI.row v (List.mem_range.1 hv)]; rfl) h),trivial⟩) hs,?_,h2,h9,by show en≤81; omega,fun i hi=>⟨(hI.ok i hi).2.2.2.1,(hI.ok i hi).2.2.2.2⟩⟩;unfold wfB;rw [vYJ (show n≤1024 by omega),vYJ (show en≤8192 by omega),vZW,vZW];refine allN_iff.2 fun i _ hi => ?_
 have hi:i < en:=by have:i < 0 + en:=hi; omega
 have h3:=hI.ok i hi;show okE ⟨n,pf,en,ed⟩ i=true;unfold okE isP cpI;simp only [vQJ,Bool.or_eq_true,Bool.not_eq_true',decide_eq_true_eq,decide_eq_false_iff_not];refine ⟨by omega,by omega,by omega,by omega,by omega,?_⟩;by_cases h4:i=0
 ·exact .inl h4
 ·have h5:=hI.so (i - 1) (by omega);rw [show i - 1 + 1=i by omega] at h5;refine .inr ?_;unfold LX at h5;rcases h5 with h5 | ⟨h5,h6⟩
  ·rw [vYJ h5,vYQ]; omega
  ·rw [vYY (show ¬ (ed (i - 1)).u < (ed i).u by omega),vYY (show ¬ (ed i).u < (ed (i - 1)).u by omega),vYJ h6,vYZ,vYZ,vYQ]; omega
end Go.Proofs.Ytglkkhpdbfacfaa.Cc
namespace Go.Proofs.Ytglkkhpdbfacfaa.Cd
open Go.Rx Rt Go.Sx Go.RowKit Ba Bb Bc Bd Be Bf Bi Bj Bk Bl Bh Bm Bn Bo Bp Bq Br Bs Bt Bu Bv Bw Bx By Bz Ca Cb Cc
noncomputable def oren (g:Gr) (a b:Int):OrS:=orS [(14,o_rn)] []
noncomputable def lsen (g:Gr) (a b:Int):List (List Nat × zH):=[]
set_option maxRecDepth 100000 in
theorem pxen (g:Gr) (a b:Int):qQY Tf (oren g a b) (qY (lsen g a b)) 60 12 [.a (gP g),.n .i64 a,.n .i64 b] =
 (bif (gF1 crn ern (a,(g.np:Int))) then (bif (gF1 crn ern (b,(g.np:Int))) then some (.v (.t [.n .i64 (a % (g.np:Int)),.n .i64 (b % (g.np:Int))]),[])
 else none)
 else none):=by kernel_rfl
theorem jUQ (g:Gr) (a b:Int) (_:0 < g.np) (hp:g.np≤100):yZ Try.prog 12 [.a (gP g),.n .i64 a,.n .i64 b] (.v (.t [.n .i64 (a % (g.np:Int)),.n .i64 (b % (g.np:Int))])):=by
 refine qV (N:=60) (LO:=qY (lsen g a b)) yX yU (yV (l:=[(14,o_rn)]) (m:=[]) ⟨jYX,trivial⟩ trivial) (fun p S hp => ?_) ?_
 ·refine qX (L:=qQ Tf 12) (l:=(lsen g a b)) (show AllP _ (lsen g a b) from trivial) p S hp
 ·refine (pxen g a b).trans ?_;have hk:0 < (g.np:Int)∧(g.np:Int)≤9223372036854775807:=by omega
  simp only [jJ (C:=crn) (t:=(a,(g.np:Int))) hk,jJ (C:=crn) (t:=(b,(g.np:Int))) hk,vYQ]
  try rfl
def cen:Gr × Int × Int→Prop:=fun t=>match t with | (g,_,_)=>0 < g.np∧g.np≤100
def een:Gr × Int × Int→List PV:=fun t=>match t with | (g,a,b)=>[.a (gP g),.n .i64 a,.n .i64 b]
noncomputable def ren:Gr × Int × Int→Ret:=fun t=>match t with | (g,a,b)=>.v (.t [.n .i64 (a % (g.np:Int)),.n .i64 (b % (g.np:Int))])
def den:List PV→Gr × Int × Int:=fun ps=>match ps with
 | [.a [.lf np pt,.lf ne ed],.n _ a,.n _ b]=>(⟨np,pt,ne,unFE ed⟩,a,b)
 | _=>(⟨0,fun _=>[],0,fun _=>unE []⟩,0,0)
noncomputable def o_en:List PV→Option (Bool × Ret):=o_fm den cen een ren
theorem kQV:uJ Try.prog 12 o_en:=qQG fun t h=>by
 obtain ⟨g,a,b⟩:=t;exact jUQ g a b h.1 h.2
end Go.Proofs.Ytglkkhpdbfacfaa.Cd
namespace Go.Proofs.Ytglkkhpdbfacfaa.Ce
end Go.Proofs.Ytglkkhpdbfacfaa.Ce
namespace Go.Rx
open Go.RowKit Go.Sx Go.ChangeShapes Go.WideShapes
section
variable {P:Program} {W:World} {H:Type} {enc:TypeId × Value→H}
def yUX (W:World) (v:Value) (L:List Int):Prop:=RP (fun k=>k < W.heap.size) W (yJV L) v∧L.length≤9223372036854775807∧∀ x ∈ L,In64 x
theorem jZU {t e:TypeId} {v:Value} {d:DataW H} {p:List MemPlace} (ht:P.underlying t=some (.slice e)) (he:P.underlying e=some (.int .i64)) (hc:P.cellsOf e=1)
  {r:Reach} {base:Nat} (hv:Value.okWide P W r base t v) (h:DataW.Trod enc P W 0 (fun _=>true) true t v d p):∃ L:List Int,yUX W v L:=by
 obtain ⟨a,l,c,rfl⟩:=zVV ht hv;obtain ⟨fuel,h⟩:=h;have h':DataW.trod enc P W 0 (fun _=>true) true fuel t [.slice a l c]=some (d,p):=h;rcases open_ints ht he hc h' with ⟨h1,_⟩ | ⟨a',len,cap,zs,h1,_,hlc,hcap,hz,_,hcell,hwf⟩
 ·simp at h1;obtain ⟨rfl,rfl,rfl⟩:=h1;exact ⟨[],.l0 none 0,by simp,fun x hx=>by cases hx⟩
 ·simp at h1;obtain ⟨rfl,rfl,rfl⟩:=h1;simp only [if_true] at hz;have hlen:(zs.take l).length=l:=by simp; omega
  have hI:IntsAt W W.heap.size (.slice (some a') l c) (zs.take l):=⟨by have:maxLen=9223372036854775807:=rfl; omega,some a',c,by rw [hlen],fun j hj=>by
   rw [hlen] at hj;have h0:=hcell 0 (by omega);have hj':=hcell j (by omega);have hsp:a'.spot=none:=by
    have e:a'.add 0=a':=by simp [Addr.add]
    rw [e] at h0;unfold World.cell? at h0;cases hb:W.heap[a'.block]? with
    | none=>simp [hb] at h0
    | some o=>cases o <;> simp [hb] at h0; exact h0.1
   obtain ⟨bb,off,sp⟩:=a';simp only at hsp;subst hsp;rw [qQV] at hj';refine ⟨bb,off,rfl,?_,?_⟩
   ·unfold World.cell? at hj';cases hb:W.heap[bb]? with
    | none=>simp [hb] at hj'
    | some o=>exact uH hb
   ·rw [hj'];simp [vZX,vZU,hj]⟩
  refine ⟨zs.take l,?_,hI.1,fun x hx => ?_⟩
  ·have:=zHH (F:=fun k=>k < W.heap.size) (w:=W) (L:=zs.take l) (a:=some a') (c:=c) (by rw [hlen]; exact hI) (by rw [hlen]; exact hlc) fun k hk=>hk
   rw [hlen] at this;exact this
  ·have:=hwf x (List.mem_of_mem_take hx)
   simpa [Lit.wf,IntKind.has,IntKind.min,IntKind.max,IntKind.signed,IntKind.bits,In64] using this
end
end Go.Rx
namespace Go.Proofs.Ytglkkhpdbfacfaa.Cf
open Go.Rx Rt Go.Sx Go.RowKit Go.ChangeShapes Go.WideShapes Ba Bb Bc Bd Be Bf Bi Bj Bk Bl Bh Bm Bn Bo Bp Bq Br Bs Bt Bu Bv Bw Bx By Bz Ca Cb Cc Cd Ce
def shI:List Sh:=[.i .i64]
def shV:List Sh:=[.i .i64,.i .i64,.i .i64]
def shPc:List Sh:=[.i .i64,.i .i64,.l shV]
def shE:List Sh:=[.i .i64,.i .i64,.i .i64,.i .i64,.i .i64,.l shPc,.i .i64,.i .i64,.l shV,.i .i64,.l shI,.l shI]
theorem rowE {ps:List PV} (h:Fits shE ps):∃ e:Ed,ps=edP e:=by
 unfold shE at h;obtain ⟨p0,q0,rfl,f0,h⟩:=h.cons;obtain ⟨p1,q1,rfl,f1,h⟩:=h.cons;obtain ⟨p2,q2,rfl,f2,h⟩:=h.cons;obtain ⟨p3,q3,rfl,f3,h⟩:=h.cons;obtain ⟨p4,q4,rfl,f4,h⟩:=h.cons;obtain ⟨p5,q5,rfl,f5,h⟩:=h.cons;obtain ⟨p6,q6,rfl,f6,h⟩:=h.cons;obtain ⟨p7,q7,rfl,f7,h⟩:=h.cons;obtain ⟨p8,q8,rfl,f8,h⟩:=h.cons;obtain ⟨p9,q9,rfl,f9,h⟩:=h.cons;obtain ⟨p10,q10,rfl,f10,h⟩:=h.cons;obtain ⟨p11,q11,rfl,f11,h⟩:=h.cons;obtain rfl:=h.nil;obtain ⟨x0,rfl,_⟩:=f0.int;obtain ⟨x1,rfl,_⟩:=f1.int;obtain ⟨x2,rfl,_⟩:=f2.int;obtain ⟨x3,rfl,_⟩:=f3.int;obtain ⟨x4,rfl,_⟩:=f4.int;obtain ⟨n5,x5,rfl,_⟩:=f5.slc;obtain ⟨x6,rfl,_⟩:=f6.int;obtain ⟨x7,rfl,_⟩:=f7.int;obtain ⟨n8,x8,rfl,_⟩:=f8.slc;obtain ⟨x9,rfl,_⟩:=f9.int;obtain ⟨n10,x10,rfl,_⟩:=f10.slc;obtain ⟨n11,x11,rfl,_⟩:=f11.slc;exact ⟨⟨x0,x1,x2,x3,x4,x6,x7,x9,n5,x5,n8,x8,n10,x10,n11,x11⟩,rfl⟩
theorem jWF {α:Type} (a0:α) {n:Nat} {f:Nat→List PV} {R:List PV→α→Prop} (h:∀ j,j < n→∃ a,R (f j) a):∃ g:Nat→α,∀ j,j < n→R (f j) (g j):=by
 have each:∀ j,∃ a:α,j < n→R (f j) a:=fun j=>by
  by_cases hj:j < n
  ·obtain ⟨a,ha⟩:=h j hj; exact ⟨a,fun _=>ha⟩
  ·exact ⟨a0,fun h=>absurd h hj⟩
 obtain ⟨g,hg⟩:=Classical.axiomOfChoice each;exact ⟨g,hg⟩
section
variable {W:World} {H:Type} {enc:TypeId × Value→H} {r:Reach} {base:Nat} {v:Value} {d:DataW H} {p:List MemPlace}
theorem jGY:shT Try.prog 9 25=some [.l [.l shI],.l shE]:=by kernel_rfl
set_option maxRecDepth 100000 in
theorem open_gr (hv:Value.okWide Try.prog W r base 25 v) (h:DataW.Trod enc Try.prog W 0 (fun _=>true) true 25 v d p):∃ g:Gr,RP (fun k=>k < W.heap.size) W (.a (gP g)) v:=by
 obtain ⟨ps,hr,hf⟩:=yXU Try.underlying25 hv h jGY;obtain ⟨p1,ps,rfl,f1,hf⟩:=hf.cons;obtain ⟨p2,ps,rfl,f2,hf⟩:=hf.cons;obtain rfl:=hf.nil;obtain ⟨n,f,rfl,_⟩:=f1.slc;obtain ⟨m,k,rfl,g2⟩:=f2.slc;obtain ⟨ed,he⟩:=jWF (unE []) (R:=fun ps z=>ps=edP z) fun j hj=>rowE (g2 j hj)
 have s:Sames [.lf n f,.lf m k] [.lf n f,.lf m (fE ed)]:=⟨Same.refl _,yJY he,trivial⟩
 exact ⟨⟨n,f,m,ed⟩,Same.a s _ _ _ hr⟩
end
end Go.Proofs.Ytglkkhpdbfacfaa.Cf
namespace Go.Proofs.Ytglkkhpdbfacfaa.Cm
open Go.Rx Rt Go.Sx Go.RowKit Ba Bb Bc Bd Be Bf Bi Bj Bk Bl Bh Bm Bn Bo Bp Bq Br Bs Bt Bu Bv Bw Bx By Bz
noncomputable def orro (N:Nat) (n:Nat) (_:Nat→Int) (x:Int):OrS:=orS [] []
noncomputable def hro (N:Nat) (n:Nat) (_:Nat→Int) (x:Int) (x:Int) (f:Nat→Int):St:=⟨[(0,.v (.n .i64 x)),(1,.p 1000002 0)],[(1000002,.blk [.o 1000001]),(1000001,.reg 3 1 (.fo n (fun v=>[.n .i64 (f v)])))]⟩
set_option maxRecDepth 100000 in
theorem rdro (G:St→Option (Ret × Mem)) (K:Cont) (N:Nat) (n:Nat) (h:Nat→Int) (x:Int) (x:Int) (f:Nat→Int):yJ (N + 10) (cxS Tf (orro N n h x) (N + 10) 59 (ntmF Tf 59)) (evX Tf (orro N n h x) (N + 10) 59 (ntmF Tf 59)) (qY []) (qQ Tf 59 [0,0,1]) [0,0,1] (Tf.hint 59 (qJ (qQ Tf 59 [0,0,1]))) K G (hro N n h x x f) =
 (bif (inB x n) then (bif (!decide ((f (x).toNat)=x)) then (bif (inB x n) then (bif (inB (f (x).toNat) n) then (bif (inB x n) then (bif (inB x n) then (G (hro N n h x (bif (Nat.beq (x).toNat (x).toNat) then (f (f (x).toNat).toNat) else (f (x).toNat)) (fun v=>(bif (Nat.beq v (x).toNat) then (f (f (x).toNat).toNat) else (f v)))))
 else none)
 else none)
 else none)
 else none)
 else (K (.exit 0) ⟨[(0,.v (.n .i64 x))],[(1000002,.blk [.o 1000001]),(1000001,.reg 3 1 (.fo n (fun v=>[.n .i64 (f v)])))]⟩))
 else none):=by kernel_rfl
noncomputable def dcro (n:Nat):(Int × (Nat→Int))→(Int × (Nat→Int)) ⊕ (Nat × Int × (Nat→Int)):=fun t=>match t with | (x,f)=>(bif (inB x n) then (bif (!decide ((f (x).toNat)=x)) then (bif (inB (f (x).toNat) n) then (.inl ((bif (Nat.beq (x).toNat (x).toNat) then (f (f (x).toNat).toNat) else (f (x).toNat)),(fun v=>(bif (Nat.beq v (x).toNat) then (f (f (x).toNat).toNat) else (f v))))) else (.inr (1,(x,f)))) else (.inr (0,(x,f)))) else (.inr (1,(x,f))))
noncomputable def kxro (N:Nat) (n:Nat) (_:Nat→Int) (x:Int) (K:Cont) (w9:Nat × Int × (Nat→Int)):Option (Ret × Mem):=bif Nat.beq w9.1 0 then (K (.exit 0) ⟨[(0,.v (.n .i64 w9.2.1))],[(1000002,.blk [.o 1000001]),(1000001,.reg 3 1 (.fo n (fun v=>[.n .i64 (w9.2.2 v)])))]⟩) else none
theorem wlro (K:Cont) (N:Nat) (n:Nat) (h:Nat→Int) (x:Int):∀ n9 (t:(Int × (Nat→Int))),LFX (N + 10) (cxS Tf (orro N n h x) (N + 10) 59 (ntmF Tf 59)) (evX Tf (orro N n h x) (N + 10) 59 (ntmF Tf 59)) (qY []) (qQ Tf 59 [0,0,1]) [0,0,1] (Tf.hint 59 (qJ (qQ Tf 59 [0,0,1]))) K n9 (hro N n h x t.1 t.2)=(qW (dcro n) n9 t).bind (kxro N n h x K):=fun n9 t=>by
 refine qQX (L:=LFX (N + 10) (cxS Tf (orro N n h x) (N + 10) 59 (ntmF Tf 59)) (evX Tf (orro N n h x) (N + 10) 59 (ntmF Tf 59)) (qY []) (qQ Tf 59 [0,0,1]) [0,0,1] (Tf.hint 59 (qJ (qQ Tf 59 [0,0,1]))) K) (stp:=yJ (N + 10) (cxS Tf (orro N n h x) (N + 10) 59 (ntmF Tf 59)) (evX Tf (orro N n h x) (N + 10) 59 (ntmF Tf 59)) (qY []) (qQ Tf 59 [0,0,1]) [0,0,1] (Tf.hint 59 (qJ (qQ Tf 59 [0,0,1]))) K) (fun _ _=>rfl) (fun _=>rfl) (fun t=>hro N n h x t.1 t.2) (fun _=>True) (dcro n) (kxro N n h x K) (fun G t _ => ?_) (fun _ _ _ _=>trivial) n9 t trivial;obtain ⟨x,f⟩:=t;refine (rdro G K N n h x x f).trans ?_;dsimp only [dcro];cases (inB x n)
 ·rfl
 ·cases (!decide ((f (x).toNat)=x))
  ·rfl
  ·cases (inB (f (x).toNat) n)
   ·rfl
   ·rfl
noncomputable def zHL (N:Nat) (n:Nat) (t:(Int × (Nat→Int))):Bool:=(qW (dcro n) (N + 10) t).isSome
noncomputable def qGW (N:Nat) (n:Nat) (t:(Int × (Nat→Int))):Nat × Int × (Nat→Int):=(qW (dcro n) (N + 10) t).getD (99,t)
theorem lwro (K:Cont) (N:Nat) (n:Nat) (h:Nat→Int) (x:Int) (t:(Int × (Nat→Int))) (hg:zHL N n t=true):LFX (N + 10) (cxS Tf (orro N n h x) (N + 10) 59 (ntmF Tf 59)) (evX Tf (orro N n h x) (N + 10) 59 (ntmF Tf 59)) (qY []) (qQ Tf 59 [0,0,1]) [0,0,1] (Tf.hint 59 (qJ (qQ Tf 59 [0,0,1]))) K (N + 10) (hro N n h x t.1 t.2)=kxro N n h x K (qGW N n t):=by
 refine (wlro K N n h x (N + 10) t).trans ?_;unfold zHL at hg;unfold qGW;cases h:qW (dcro n) (N + 10) t with
 | none=>rw [h] at hg; cases hg
 | some y=>rfl
def UF (n:Nat) (f:Nat→Int):Prop:=∀ v,v < n→∃ w:Nat,f v=(w:Int)∧w≤v
inductive Rt (f:Nat→Int):Nat→Nat→Prop
 | here {u:Nat} (h:f u=(u:Int)):Rt f u u
 | up {u w r:Nat} (h:f u=(w:Int)) (hw:w < u) (hr:Rt f w r):Rt f u r
theorem Rt.fix {f:Nat→Int} {u r:Nat} (h:Rt f u r):f r=(r:Int):=by
 induction h with
 | here h=>exact h
 | up _ _ _ ih=>exact ih
theorem Rt.le {f:Nat→Int} {u r:Nat} (h:Rt f u r):r≤u:=by
 induction h with
 | here h=>exact Nat.le_refl _
 | up _ hw _ ih=>omega
theorem Rt.uniq {f:Nat→Int} {u r r':Nat} (h:Rt f u r) (h':Rt f u r'):r=r':=by
 induction h with
 | here h =>
  cases h' with
  | here _=>rfl
  | up h2 hw _=>omega
 | up h hw _ ih =>
  cases h' with
  | here h2=>omega
  | up h2 _ hr2 =>
   rw [h] at h2;have e:=Int.ofNat_inj.1 h2;subst e;exact ih hr2
theorem Rt.down {f:Nat→Int} {u w r:Nat} (h:Rt f u r) (e:f u=(w:Int)) (_:w ≠ u):Rt f w r:=by
 cases h with
 | here h2=>omega
 | up h2 _ hr =>
  rw [e] at h2;have e:=Int.ofNat_inj.1 h2;subst e;exact hr
theorem UF.ex {n:Nat} {f:Nat→Int} (h:UF n f) (u:Nat):u < n→∃ r,Rt f u r:=by
 induction u using Nat.strongRecOn with
 | _ u ih =>
  intro hu;obtain ⟨w,h1,h2⟩:=h u hu;by_cases e:w=u
  ·subst e; exact ⟨_,.here h1⟩
  ·obtain ⟨r,hr⟩:=ih w (by omega) (by omega);exact ⟨r,.up h1 (by omega) hr⟩
theorem UF.set {n:Nat} {f:Nat→Int} (h:UF n f) {x z:Nat} (hz:z≤x):UF n (setF f x (z:Int)):=fun v hv=>by
 by_cases e:v=x
 ·subst e; exact ⟨z,yW ..,hz⟩
 ·rw [zK e]; exact h v hv
theorem Rt.cut {f:Nat→Int} {x z:Nat} (hz:z < x) (hs:∀ s,Rt f x s→Rt f z s) (u:Nat):∀ s,Rt f u s→Rt (setF f x (z:Int)) u s:=by
 induction u using Nat.strongRecOn with
 | _ u ih =>
  intro s h;by_cases e:u=x
  ·subst e; exact .up (yW ..) hz (ih z hz s (hs s h))
  ·cases h with
   | here h=>exact .here (by rw [zK e]; exact h)
   | up h hw hr=>exact .up (by rw [zK e]; exact h) hw (ih _ hw _ hr)
theorem jWX {n:Nat}:∀ (M x:Nat) (f:Nat→Int),UF n f→x < n→x < M→∃ (r:Nat) (f':Nat→Int),qW (dcro n) M ((x:Int),f)=some (0,(r:Int),f')∧Rt f x r∧UF n f'∧(∀ u s,Rt f u s→Rt f' u s)∧∀ u s:Nat,f u=(s:Int)→f s=(s:Int)→f' u=(s:Int)
 | 0,x,f,_,_,h=>by omega
 | M + 1,x,f,hf,hx,hM=>by
  rw [qW];dsimp only [dcro];obtain ⟨w,hw,hwx⟩:=hf x hx;rw [zU hx,toN,hw,zU (show w < n by omega),vYQ];by_cases e:w=x
  ·subst e;rw [vYJ rfl];exact ⟨_,f,rfl,.here hw,hf,fun u s h=>h,fun u s h _=>h⟩
  ·rw [vYY (show ¬ (w:Int)=(x:Int) by omega)];obtain ⟨z,hz,hzw⟩:=hf w (by omega);simp only [Bool.not_false,vYQ,Nat.beq_refl,toN,hz];have hs:∀ s,Rt f x s→Rt f z s:=fun s h=>by
    have h1:=h.down hw e;by_cases e2:z=w
    ·subst e2; exact h1
    ·exact h1.down hz e2
   obtain ⟨r,f',q1,q2,q3,q4,q5⟩:=jWX M z (setF f x (z:Int)) (hf.set (by omega)) (by omega) (by omega);refine ⟨r,f',q1,?_,q3,fun u s h=>q4 u s (Rt.cut (by omega) hs u s h),fun u s h1 h2 => ?_⟩
   ·obtain ⟨r0,hr0⟩:=hf.ex x hx
    have:=(Rt.cut (x:=x) (by omega) hs z r0 (hs r0 hr0)).uniq q2
    subst this;exact hr0
   ·have hsx:s ≠ x:=fun e3=>by subst e3; rw [hw] at h2; omega
    refine q5 u s ?_ (by rw [zK hsx]; exact h2);by_cases e3:u=x
    ·subst e3;rw [hw] at h1;have e4:=Int.ofNat_inj.1 h1;subst e4;rw [yW,← hz,h2]
    ·rw [zK e3]; exact h1
noncomputable def roR (n:Nat) (h:Nat→Int) (x:Int):Int:=(qGW NN n (x,h)).2.1
noncomputable def roF (n:Nat) (h:Nat→Int) (x:Int):Nat→Int:=(qGW NN n (x,h)).2.2
theorem zZU {n:Nat} {h:Nat→Int} {x:Nat} (hf:UF n h) (hx:x < n) (_:n≤100):zHL NN n ((x:Int),h)=true∧(qGW NN n ((x:Int),h)).1=0∧∃ r:Nat,roR n h (x:Int)=(r:Int)∧Rt h x r∧UF n (roF n h (x:Int))∧(∀ u s,Rt h u s→Rt (roF n h (x:Int)) u s)∧∀ u s:Nat,h u=(s:Int)→h s=(s:Int)→roF n h (x:Int) u=(s:Int):=by
 obtain ⟨r,f',q1,q2,q3,q4,q5⟩:=jWX (NN + 10) x h hf hx (by rw [qJV]; omega);have ho:qGW NN n ((x:Int),h)=(0,(r:Int),f'):=by unfold qGW; rw [q1]; rfl
 refine ⟨by unfold zHL; rw [q1]; rfl,by rw [ho],r,by unfold roR; rw [ho],q2,?_,?_,?_⟩
 ·unfold roF; rw [ho]; exact q3
 ·unfold roF; rw [ho]; exact q4
 ·unfold roF; rw [ho]; exact q5
noncomputable def yWI (N:Nat) (n:Nat) (h:Nat→Int) (x:Int):List (List Nat × zH):=[([0,0,1],sumF (fun t:(Int × (Nat→Int))=>(hro N n h x t.1 t.2)) (fun σ=>(slI σ 0,rgI σ 1000001 0)) (fun t K=>(bif zHL N n t then kxro N n h x K (qGW N n t) else none)))]
set_option maxRecDepth 100000 in
theorem jGE (N:Nat) (n:Nat) (h:Nat→Int) (x:Int):jQC Tf (orro N n h x) (qY (yWI N n h x)) (N + 10) 59 [.v (.n .i64 x),.p 1000000 0] [.gs 3 1 (.lf n (fQ h))] =
 (bif (gSt (hro N n h x x h) (hro N n h x x h)) then (bif (zHL N n (x,h)) then (bif (Nat.beq (qGW N n (x,h)).1 0) then some (.v (.t [.n .i64 (qGW N n (x,h)).2.1,.gs 3 1 (.lf n (fun v=>[.n .i64 ((qGW N n (x,h)).2.2 v)]))]),[])
 else none)
 else none)
 else none):=by kernel_rfl
theorem jQK (N:Nat) (n:Nat) (h:Nat→Int) (x:Int) (hN:N=NN) (hf:UF n h) (_:0≤x∧x < (n:Int)) (hn:n≤100):zVZ Try.prog 59 [.v (.n .i64 x),.p 1000000 0] [.gs 3 1 (.lf n (fQ h))] (.n .i64 (roR n h x)) ([.gs 3 1 (.lf n (fQ (roF n h x)))]):=by
 refine zXH (N:=(N + 10)) (LO:=qY (yWI N n h x)) yX yU (yV (l:=[]) (m:=[]) trivial trivial) (fun p S hp => ?_) ?_
 ·refine qX (L:=qQ Tf 59) (l:=(yWI N n h x)) (show AllP _ (yWI N n h x) from ⟨?_,trivial⟩) p S hp
  ·dsimp only;refine yK (T:=Tf) (o:=(orro N n h x)) (f:=59) (LO:=qY []) (p:=[0,0,1]) jQ ?_;intro t K r hr;obtain ⟨hg,hr⟩:=qZ hr
   skip
   exact (lwro K N n h x t hg).trans hr
 ·refine (jGE N n h x).trans ?_;subst hN;obtain ⟨y,rfl⟩:∃ y:Nat,x=(y:Int):=⟨x.toNat,by omega⟩
  obtain ⟨s1,s2,_⟩:=zZU (x:=y) hf (by omega) hn;rw [yY,s1,s2];rfl
def czr:Nat × (Nat→Int) × Int→Prop:=fun t=>match t with | (n,fh,x)=>UF n fh∧(0≤x∧x < (n:Int))∧n≤100
def hzr:Nat × (Nat→Int) × Int→List HV:=fun t=>match t with | (n,_,x)=>[.v (.n .i64 x),.p 1000000 0]
def ezr:Nat × (Nat→Int) × Int→List PV:=fun t=>match t with | (n,fh,_)=>[.gs 3 1 (.lf n (fQ fh))]
noncomputable def xzr:Nat × (Nat→Int) × Int→PV:=fun t=>match t with | (n,fh,x)=>.n .i64 (roR n fh x)
noncomputable def qzr:Nat × (Nat→Int) × Int→List PV:=fun t=>match t with | (n,fh,x)=>[.gs 3 1 (.lf n (fQ (roF n fh x)))]
def dzr:List HV→List PV→Nat × (Nat→Int) × Int:=fun hs ps=>match hs,ps with
 | [.v (.n _ x),_],[.gs _ _ (.lf n f)]=>(n,unFQ f,x)
 | _,_=>(0,fun _=>0,0)
noncomputable def o_zr:List HV→List PV→Option (Bool × (PV × List PV)):=o_fb dzr czr hzr ezr xzr qzr
theorem yXF:OneOkBk Try.prog 59 o_zr (Tf.gq 59) (Tf.gk 59):=by
 rw [show Tf.gk 59=true by kernel_rfl];refine kQX fun t h => ?_
 obtain ⟨n,fh,x⟩:=t;exact jQK NN n fh x rfl h.1 h.2.1 h.2.2
noncomputable def orhe (g:Gr) (e:Ed):OrS:=orS [] []
noncomputable def lshe (g:Gr) (e:Ed):List (List Nat × zH):=[]
set_option maxRecDepth 100000 in
theorem pxhe (g:Gr) (e:Ed):qQY Tf (orhe g e) (qY (lshe g e)) 60 60 [.a (gP g),.a (edP e)] =
 (bif (decide (0≤e.u)) then (bif (decide (e.u < (g.np:Int))) then (bif (decide (0≤e.v)) then (bif (decide (e.v < (g.np:Int))) then some (.v (.b true),[])
 else some (.v (.b false),[]))
 else some (.v (.b false),[]))
 else some (.v (.b false),[]))
 else some (.v (.b false),[])):=by kernel_rfl
theorem jKI (g:Gr) (e:Ed):yZ Try.prog 60 [.a (gP g),.a (edP e)] (.v (.b (isP g e.u && isP g e.v))):=by
 refine qV (N:=60) (LO:=qY (lshe g e)) yX yU (yV (l:=[]) (m:=[]) trivial trivial) (fun p S hp => ?_) ?_
 ·refine qX (L:=qQ Tf 60) (l:=(lshe g e)) (show AllP _ (lshe g e) from trivial) p S hp
 ·refine (pxhe g e).trans ?_;unfold isP;cases decide (0≤e.u) <;> cases decide (e.u < (g.np:Int)) <;> cases decide (0≤e.v) <;> cases decide (e.v < (g.np:Int)) <;> rfl
def che:Gr × Ed→Prop:=fun t=>match t with | (_,_)=>True
def ehe:Gr × Ed→List PV:=fun t=>match t with | (g,e)=>[.a (gP g),.a (edP e)]
noncomputable def rhe:Gr × Ed→Ret:=fun t=>match t with | (g,e)=>.v (.b (isP g e.u && isP g e.v))
def dhe:List PV→Gr × Ed:=fun ps=>match ps with
 | [.a [.lf np pt,.lf ne ed],.a r]=>(⟨np,pt,ne,unFE ed⟩,unE r)
 | _=>(⟨0,fun _=>[],0,fun _=>unE []⟩,unE [])
noncomputable def o_he:List PV→Option (Bool × Ret):=o_fm dhe che ehe rhe
theorem kQK:uJ Try.prog 60 o_he:=qQG fun t h=>by
 obtain ⟨g,e⟩:=t;exact jKI g e
noncomputable def orru (s m:Int):OrS:=orS [] []
noncomputable def lsru (s m:Int):List (List Nat × zH):=[]
set_option maxRecDepth 100000 in
theorem pxru (s m:Int):qQY Tf (orru s m) (qY (lsru s m)) 60 61 [.n .i64 s,.n .i64 m] =
 (bif (decide (m=0)) then (bif (decide (s=1)) then some (.v (.b true),[])
 else some (.v (.b false),[]))
 else (bif (decide (m=1)) then (bif (decide (s=1)) then some (.v (.b true),[])
 else (bif (decide (s=0)) then some (.v (.b true),[])
 else some (.v (.b false),[])))
 else (bif (decide (m=2)) then (bif (!decide (s=2)) then some (.v (.b true),[])
 else some (.v (.b false),[]))
 else some (.v (.b false),[])))):=by kernel_rfl
theorem jKU (s m:Int):yZ Try.prog 61 [.n .i64 s,.n .i64 m] (.v (.b (usB s m))):=by
 refine qV (N:=60) (LO:=qY (lsru s m)) yX yU (yV (l:=[]) (m:=[]) trivial trivial) (fun p S hp => ?_) ?_
 ·refine qX (L:=qQ Tf 61) (l:=(lsru s m)) (show AllP _ (lsru s m) from trivial) p S hp
 ·refine (pxru s m).trans ?_;unfold usB;cases decide (m=0) <;> cases decide (m=1) <;> cases decide (m=2) <;> cases decide (s=0) <;> cases decide (s=1) <;> cases decide (s=2) <;> rfl
def crm:Int × Int→Prop:=fun t=>match t with | (_,_)=>True
def erm:Int × Int→List PV:=fun t=>match t with | (s,m)=>[.n .i64 s,.n .i64 m]
noncomputable def rrm:Int × Int→Ret:=fun t=>match t with | (s,m)=>.v (.b (usB s m))
def drm:List PV→Int × Int:=fun ps=>match ps with
 | [.n _ a,.n _ b]=>(a,b)
 | _=>(0,0)
noncomputable def o_rm:List PV→Option (Bool × Ret):=o_fm drm crm erm rrm
theorem jHE:uJ Try.prog 61 o_rm:=qQG fun t h=>by
 obtain ⟨s,m⟩:=t;exact jKU s m
noncomputable def ork0 (N:Nat) (g:Gr) (m:Int):OrS:=orS [(60,o_he),(61,o_rm)] [(59,o_zr)]
noncomputable def hk0 (N:Nat) (g:Gr) (m:Int) (i:Int) (f:Nat→Int):St:=⟨[(1,.v (.n .i64 m)),(2,.p 2 0),(4,.p 4 0),(18,.v (.n .i64 (g.np:Int))),(19,.v (.n .i64 i))],[(2,.blk [.v (.lf g.np g.pt),.v (.lf g.ne (fE g.ed))]),(4,.blk [.o 16]),(16,.reg 3 1 (.fo g.np (fun v=>[.n .i64 (f v)])))]⟩
set_option maxRecDepth 100000 in
theorem rdk0 (G:St→Option (Ret × Mem)) (K:Cont) (N:Nat) (g:Gr) (m:Int) (i:Int) (f:Nat→Int):yJ (N + 10) (cxS Tf (ork0 N g m) (N + 10) 47 (ntmF Tf 47)) (evX Tf (ork0 N g m) (N + 10) 47 (ntmF Tf 47)) (qY []) (qQ Tf 47 [0,1,0,1,1,1]) [0,1,0,1,1,1] (Tf.hint 47 (qJ (qQ Tf 47 [0,1,0,1,1,1]))) K G (hk0 N g m i f) =
 (bif (decide (i < (g.np:Int))) then (bif (inB i g.np) then (G (hk0 N g m (vYX .i64 (i + 1)) (fun v=>(bif (Nat.beq v (i).toNat) then i else (f v)))))
 else none)
 else (K (.exit 0) ⟨[(1,.v (.n .i64 m)),(2,.p 2 0),(4,.p 4 0)],[(2,.blk [.v (.lf g.np g.pt),.v (.lf g.ne (fE g.ed))]),(4,.blk [.o 16]),(16,.reg 3 1 (.fo g.np (fun v=>[.n .i64 (f v)])))]⟩)):=by kernel_rfl
noncomputable def dck0 (g:Gr):(Int × (Nat→Int))→(Int × (Nat→Int)) ⊕ (Nat × Int × (Nat→Int)):=fun t=>match t with | (i,f)=>(bif (decide (i < (g.np:Int))) then (bif (inB i g.np) then (.inl ((vYX .i64 (i + 1)),(fun v=>(bif (Nat.beq v (i).toNat) then i else (f v))))) else (.inr (1,(i,f)))) else (.inr (0,(i,f))))
noncomputable def kxk0 (N:Nat) (g:Gr) (m:Int) (K:Cont) (w9:Nat × Int × (Nat→Int)):Option (Ret × Mem):=bif Nat.beq w9.1 0 then (K (.exit 0) ⟨[(1,.v (.n .i64 m)),(2,.p 2 0),(4,.p 4 0)],[(2,.blk [.v (.lf g.np g.pt),.v (.lf g.ne (fE g.ed))]),(4,.blk [.o 16]),(16,.reg 3 1 (.fo g.np (fun v=>[.n .i64 (w9.2.2 v)])))]⟩) else none
theorem wlk0 (K:Cont) (N:Nat) (g:Gr) (m:Int):∀ n9 (t:(Int × (Nat→Int))),LFX (N + 10) (cxS Tf (ork0 N g m) (N + 10) 47 (ntmF Tf 47)) (evX Tf (ork0 N g m) (N + 10) 47 (ntmF Tf 47)) (qY []) (qQ Tf 47 [0,1,0,1,1,1]) [0,1,0,1,1,1] (Tf.hint 47 (qJ (qQ Tf 47 [0,1,0,1,1,1]))) K n9 (hk0 N g m t.1 t.2)=(qW (dck0 g) n9 t).bind (kxk0 N g m K):=fun n9 t=>by
 refine qQX (L:=LFX (N + 10) (cxS Tf (ork0 N g m) (N + 10) 47 (ntmF Tf 47)) (evX Tf (ork0 N g m) (N + 10) 47 (ntmF Tf 47)) (qY []) (qQ Tf 47 [0,1,0,1,1,1]) [0,1,0,1,1,1] (Tf.hint 47 (qJ (qQ Tf 47 [0,1,0,1,1,1]))) K) (stp:=yJ (N + 10) (cxS Tf (ork0 N g m) (N + 10) 47 (ntmF Tf 47)) (evX Tf (ork0 N g m) (N + 10) 47 (ntmF Tf 47)) (qY []) (qQ Tf 47 [0,1,0,1,1,1]) [0,1,0,1,1,1] (Tf.hint 47 (qJ (qQ Tf 47 [0,1,0,1,1,1]))) K) (fun _ _=>rfl) (fun _=>rfl) (fun t=>hk0 N g m t.1 t.2) (fun _=>True) (dck0 g) (kxk0 N g m K) (fun G t _ => ?_) (fun _ _ _ _=>trivial) n9 t trivial;obtain ⟨i,f⟩:=t;refine (rdk0 G K N g m i f).trans ?_;dsimp only [dck0];cases (decide (i < (g.np:Int)))
 ·rfl
 ·cases (inB i g.np)
  ·rfl
  ·rfl
noncomputable def yQK (N:Nat) (g:Gr) (t:(Int × (Nat→Int))):Bool:=(qW (dck0 g) (N + 10) t).isSome
noncomputable def qJX (N:Nat) (g:Gr) (t:(Int × (Nat→Int))):Nat × Int × (Nat→Int):=(qW (dck0 g) (N + 10) t).getD (99,t)
theorem lwk0 (K:Cont) (N:Nat) (g:Gr) (m:Int) (t:(Int × (Nat→Int))) (hg:yQK N g t=true):LFX (N + 10) (cxS Tf (ork0 N g m) (N + 10) 47 (ntmF Tf 47)) (evX Tf (ork0 N g m) (N + 10) 47 (ntmF Tf 47)) (qY []) (qQ Tf 47 [0,1,0,1,1,1]) [0,1,0,1,1,1] (Tf.hint 47 (qJ (qQ Tf 47 [0,1,0,1,1,1]))) K (N + 10) (hk0 N g m t.1 t.2)=kxk0 N g m K (qJX N g t):=by
 refine (wlk0 K N g m (N + 10) t).trans ?_;unfold yQK at hg;unfold qJX;cases h:qW (dck0 g) (N + 10) t with
 | none=>rw [h] at hg; cases hg
 | some y=>rfl
noncomputable def hk1 (N:Nat) (g:Gr) (m:Int) (i:Int) (f:Nat→Int):St:=⟨[(1,.v (.n .i64 m)),(2,.p 2 0),(4,.p 4 0),(6,.g 59 [] [.p 4 0]),(29,.v (.lf g.ne (fE g.ed))),(30,.v (.n .i64 (g.ne:Int))),(31,.v (.n .i64 i))],[(2,.blk [.v (.lf g.np g.pt),.v (.lf g.ne (fE g.ed))]),(4,.blk [.o 16]),(16,.reg 3 1 (.fo g.np (fun v=>[.n .i64 (f v)])))]⟩
set_option maxRecDepth 100000 in
theorem rdk1 (G:St→Option (Ret × Mem)) (K:Cont) (N:Nat) (g:Gr) (m:Int) (i:Int) (f:Nat→Int):yJ (N + 10) (cxS Tf (ork0 N g m) (N + 10) 47 (ntmF Tf 47)) (evX Tf (ork0 N g m) (N + 10) 47 (ntmF Tf 47)) (qY []) (qQ Tf 47 [0,1,0,1,1,1,1,1]) [0,1,0,1,1,1,1,1] (Tf.hint 47 (qJ (qQ Tf 47 [0,1,0,1,1,1,1,1]))) K G (hk1 N g m i f) =
 (bif (decide (i < (g.ne:Int))) then (bif (inB i g.ne) then (bif (gF1 che ehe (g,(g.ed (i).toNat))) then (bif (isP g (g.ed (i).toNat).u && isP g (g.ed (i).toNat).v) then (bif (gF1 crm erm (((g.ed (i).toNat).s),m)) then (bif (usB ((g.ed (i).toNat).s) m) then (bif (gB1 czr hzr ezr (g.np,f,((g.ed (i).toNat).u))) then (bif (gB1 czr hzr ezr (g.np,(fun v=>((roF g.np f ((g.ed (i).toNat).u)) v)),((g.ed (i).toNat).v))) then (bif (inB (max (roR g.np f ((g.ed (i).toNat).u)) (roR g.np (fun v=>((roF g.np f ((g.ed (i).toNat).u)) v)) ((g.ed (i).toNat).v))) g.np) then (G (hk1 N g m (vYX .i64 (i + 1)) (fun v=>(bif (Nat.beq v (max (roR g.np f ((g.ed (i).toNat).u)) (roR g.np (fun v=>((roF g.np f ((g.ed (i).toNat).u)) v)) ((g.ed (i).toNat).v))).toNat) then (min (roR g.np f ((g.ed (i).toNat).u)) (roR g.np (fun v=>((roF g.np f ((g.ed (i).toNat).u)) v)) ((g.ed (i).toNat).v))) else ((roF g.np (fun v=>((roF g.np f ((g.ed (i).toNat).u)) v)) ((g.ed (i).toNat).v)) v)))))
 else none)
 else none)
 else none)
 else (G (hk1 N g m (vYX .i64 (i + 1)) (fun v=>(f v)))))
 else none)
 else (G (hk1 N g m (vYX .i64 (i + 1)) (fun v=>(f v)))))
 else none)
 else none)
 else (K (.exit 2) ⟨[(4,.p 4 0),(6,.g 59 [] [.p 4 0])],[(4,.blk [.o 16]),(16,.reg 3 1 (.fo g.np (fun v=>[.n .i64 (f v)])))]⟩)):=by kernel_rfl
noncomputable def dck1 (g:Gr) (m:Int):(Int × (Nat→Int))→(Int × (Nat→Int)) ⊕ (Nat × Int × (Nat→Int)):=fun t=>match t with | (i,f)=>(bif (decide (i < (g.ne:Int))) then (bif (inB i g.ne) then (bif (gF1 che ehe (g,(g.ed (i).toNat))) then (bif (isP g (g.ed (i).toNat).u && isP g (g.ed (i).toNat).v) then (bif (gF1 crm erm (((g.ed (i).toNat).s),m)) then (bif (usB ((g.ed (i).toNat).s) m) then (bif (gB1 czr hzr ezr (g.np,f,((g.ed (i).toNat).u))) then (bif (gB1 czr hzr ezr (g.np,(fun v=>((roF g.np f ((g.ed (i).toNat).u)) v)),((g.ed (i).toNat).v))) then (bif (inB (max (roR g.np f ((g.ed (i).toNat).u)) (roR g.np (fun v=>((roF g.np f ((g.ed (i).toNat).u)) v)) ((g.ed (i).toNat).v))) g.np) then (.inl ((vYX .i64 (i + 1)),(fun v=>(bif (Nat.beq v (max (roR g.np f ((g.ed (i).toNat).u)) (roR g.np (fun v=>((roF g.np f ((g.ed (i).toNat).u)) v)) ((g.ed (i).toNat).v))).toNat) then (min (roR g.np f ((g.ed (i).toNat).u)) (roR g.np (fun v=>((roF g.np f ((g.ed (i).toNat).u)) v)) ((g.ed (i).toNat).v))) else ((roF g.np (fun v=>((roF g.np f ((g.ed (i).toNat).u)) v)) ((g.ed (i).toNat).v)) v))))) else (.inr (1,(i,f)))) else (.inr (1,(i,f)))) else (.inr (1,(i,f)))) else (.inl ((vYX .i64 (i + 1)),(fun v=>(f v))))) else (.inr (1,(i,f)))) else (.inl ((vYX .i64 (i + 1)),(fun v=>(f v))))) else (.inr (1,(i,f)))) else (.inr (1,(i,f)))) else (.inr (0,(i,f))))
noncomputable def kxk1 (N:Nat) (g:Gr) (m:Int) (K:Cont) (w9:Nat × Int × (Nat→Int)):Option (Ret × Mem):=bif Nat.beq w9.1 0 then (K (.exit 2) ⟨[(4,.p 4 0),(6,.g 59 [] [.p 4 0])],[(4,.blk [.o 16]),(16,.reg 3 1 (.fo g.np (fun v=>[.n .i64 (w9.2.2 v)])))]⟩) else none
theorem wlk1 (K:Cont) (N:Nat) (g:Gr) (m:Int):∀ n9 (t:(Int × (Nat→Int))),LFX (N + 10) (cxS Tf (ork0 N g m) (N + 10) 47 (ntmF Tf 47)) (evX Tf (ork0 N g m) (N + 10) 47 (ntmF Tf 47)) (qY []) (qQ Tf 47 [0,1,0,1,1,1,1,1]) [0,1,0,1,1,1,1,1] (Tf.hint 47 (qJ (qQ Tf 47 [0,1,0,1,1,1,1,1]))) K n9 (hk1 N g m t.1 t.2)=(qW (dck1 g m) n9 t).bind (kxk1 N g m K):=fun n9 t=>by
 refine qQX (L:=LFX (N + 10) (cxS Tf (ork0 N g m) (N + 10) 47 (ntmF Tf 47)) (evX Tf (ork0 N g m) (N + 10) 47 (ntmF Tf 47)) (qY []) (qQ Tf 47 [0,1,0,1,1,1,1,1]) [0,1,0,1,1,1,1,1] (Tf.hint 47 (qJ (qQ Tf 47 [0,1,0,1,1,1,1,1]))) K) (stp:=yJ (N + 10) (cxS Tf (ork0 N g m) (N + 10) 47 (ntmF Tf 47)) (evX Tf (ork0 N g m) (N + 10) 47 (ntmF Tf 47)) (qY []) (qQ Tf 47 [0,1,0,1,1,1,1,1]) [0,1,0,1,1,1,1,1] (Tf.hint 47 (qJ (qQ Tf 47 [0,1,0,1,1,1,1,1]))) K) (fun _ _=>rfl) (fun _=>rfl) (fun t=>hk1 N g m t.1 t.2) (fun _=>True) (dck1 g m) (kxk1 N g m K) (fun G t _ => ?_) (fun _ _ _ _=>trivial) n9 t trivial;obtain ⟨i,f⟩:=t;refine (rdk1 G K N g m i f).trans ?_;dsimp only [dck1];cases (decide (i < (g.ne:Int)))
 ·rfl
 ·cases (inB i g.ne)
  ·rfl
  ·cases (gF1 che ehe (g,(g.ed (i).toNat)))
   ·rfl
   ·cases (isP g (g.ed (i).toNat).u && isP g (g.ed (i).toNat).v)
    ·rfl
    ·cases (gF1 crm erm (((g.ed (i).toNat).s),m))
     ·rfl
     ·cases (usB ((g.ed (i).toNat).s) m)
      ·rfl
      ·cases (gB1 czr hzr ezr (g.np,f,((g.ed (i).toNat).u)))
       ·rfl
       ·cases (gB1 czr hzr ezr (g.np,(fun v=>((roF g.np f ((g.ed (i).toNat).u)) v)),((g.ed (i).toNat).v)))
        ·rfl
        ·cases (inB (max (roR g.np f ((g.ed (i).toNat).u)) (roR g.np (fun v=>((roF g.np f ((g.ed (i).toNat).u)) v)) ((g.ed (i).toNat).v))) g.np)
         ·rfl
         ·rfl
noncomputable def yQJ (N:Nat) (g:Gr) (m:Int) (t:(Int × (Nat→Int))):Bool:=(qW (dck1 g m) (N + 10) t).isSome
noncomputable def qWC (N:Nat) (g:Gr) (m:Int) (t:(Int × (Nat→Int))):Nat × Int × (Nat→Int):=(qW (dck1 g m) (N + 10) t).getD (99,t)
theorem lwk1 (K:Cont) (N:Nat) (g:Gr) (m:Int) (t:(Int × (Nat→Int))) (hg:yQJ N g m t=true):LFX (N + 10) (cxS Tf (ork0 N g m) (N + 10) 47 (ntmF Tf 47)) (evX Tf (ork0 N g m) (N + 10) 47 (ntmF Tf 47)) (qY []) (qQ Tf 47 [0,1,0,1,1,1,1,1]) [0,1,0,1,1,1,1,1] (Tf.hint 47 (qJ (qQ Tf 47 [0,1,0,1,1,1,1,1]))) K (N + 10) (hk1 N g m t.1 t.2)=kxk1 N g m K (qWC N g m t):=by
 refine (wlk1 K N g m (N + 10) t).trans ?_;unfold yQJ at hg;unfold qWC;cases h:qW (dck1 g m) (N + 10) t with
 | none=>rw [h] at hg; cases hg
 | some y=>rfl
noncomputable def hk2 (N:Nat) (g:Gr) (m:Int) (i:Int) (f:Nat→Int):St:=⟨[(4,.p 4 0),(6,.g 59 [] [.p 4 0]),(62,.v (.n .i64 (g.np:Int))),(63,.v (.n .i64 i))],[(4,.blk [.o 16]),(16,.reg 3 1 (.fo g.np (fun v=>[.n .i64 (f v)])))]⟩
set_option maxRecDepth 100000 in
theorem rdk2 (G:St→Option (Ret × Mem)) (K:Cont) (N:Nat) (g:Gr) (m:Int) (i:Int) (f:Nat→Int):yJ (N + 10) (cxS Tf (ork0 N g m) (N + 10) 47 (ntmF Tf 47)) (evX Tf (ork0 N g m) (N + 10) 47 (ntmF Tf 47)) (qY []) (qQ Tf 47 [0,1,0,1,1,1,1,1,1]) [0,1,0,1,1,1,1,1,1] (Tf.hint 47 (qJ (qQ Tf 47 [0,1,0,1,1,1,1,1,1]))) K G (hk2 N g m i f) =
 (bif (decide (i < (g.np:Int))) then (bif (gB1 czr hzr ezr (g.np,f,i)) then (bif (inB i g.np) then (G (hk2 N g m (vYX .i64 (i + 1)) (fun v=>(bif (Nat.beq v (i).toNat) then (roR g.np f i) else ((roF g.np f i) v)))))
 else none)
 else none)
 else (K (.exit 4) ⟨[(4,.p 4 0)],[(4,.blk [.o 16]),(16,.reg 3 1 (.fo g.np (fun v=>[.n .i64 (f v)])))]⟩)):=by kernel_rfl
noncomputable def dck2 (g:Gr):(Int × (Nat→Int))→(Int × (Nat→Int)) ⊕ (Nat × Int × (Nat→Int)):=fun t=>match t with | (i,f)=>(bif (decide (i < (g.np:Int))) then (bif (gB1 czr hzr ezr (g.np,f,i)) then (bif (inB i g.np) then (.inl ((vYX .i64 (i + 1)),(fun v=>(bif (Nat.beq v (i).toNat) then (roR g.np f i) else ((roF g.np f i) v))))) else (.inr (1,(i,f)))) else (.inr (1,(i,f)))) else (.inr (0,(i,f))))
noncomputable def kxk2 (N:Nat) (g:Gr) (m:Int) (K:Cont) (w9:Nat × Int × (Nat→Int)):Option (Ret × Mem):=bif Nat.beq w9.1 0 then (K (.exit 4) ⟨[(4,.p 4 0)],[(4,.blk [.o 16]),(16,.reg 3 1 (.fo g.np (fun v=>[.n .i64 (w9.2.2 v)])))]⟩) else none
theorem wlk2 (K:Cont) (N:Nat) (g:Gr) (m:Int):∀ n9 (t:(Int × (Nat→Int))),LFX (N + 10) (cxS Tf (ork0 N g m) (N + 10) 47 (ntmF Tf 47)) (evX Tf (ork0 N g m) (N + 10) 47 (ntmF Tf 47)) (qY []) (qQ Tf 47 [0,1,0,1,1,1,1,1,1]) [0,1,0,1,1,1,1,1,1] (Tf.hint 47 (qJ (qQ Tf 47 [0,1,0,1,1,1,1,1,1]))) K n9 (hk2 N g m t.1 t.2)=(qW (dck2 g) n9 t).bind (kxk2 N g m K):=fun n9 t=>by
 refine qQX (L:=LFX (N + 10) (cxS Tf (ork0 N g m) (N + 10) 47 (ntmF Tf 47)) (evX Tf (ork0 N g m) (N + 10) 47 (ntmF Tf 47)) (qY []) (qQ Tf 47 [0,1,0,1,1,1,1,1,1]) [0,1,0,1,1,1,1,1,1] (Tf.hint 47 (qJ (qQ Tf 47 [0,1,0,1,1,1,1,1,1]))) K) (stp:=yJ (N + 10) (cxS Tf (ork0 N g m) (N + 10) 47 (ntmF Tf 47)) (evX Tf (ork0 N g m) (N + 10) 47 (ntmF Tf 47)) (qY []) (qQ Tf 47 [0,1,0,1,1,1,1,1,1]) [0,1,0,1,1,1,1,1,1] (Tf.hint 47 (qJ (qQ Tf 47 [0,1,0,1,1,1,1,1,1]))) K) (fun _ _=>rfl) (fun _=>rfl) (fun t=>hk2 N g m t.1 t.2) (fun _=>True) (dck2 g) (kxk2 N g m K) (fun G t _ => ?_) (fun _ _ _ _=>trivial) n9 t trivial;obtain ⟨i,f⟩:=t;refine (rdk2 G K N g m i f).trans ?_;dsimp only [dck2];cases (decide (i < (g.np:Int)))
 ·rfl
 ·cases (gB1 czr hzr ezr (g.np,f,i))
  ·rfl
  ·cases (inB i g.np)
   ·rfl
   ·rfl
noncomputable def yQY (N:Nat) (g:Gr) (t:(Int × (Nat→Int))):Bool:=(qW (dck2 g) (N + 10) t).isSome
noncomputable def zKU (N:Nat) (g:Gr) (t:(Int × (Nat→Int))):Nat × Int × (Nat→Int):=(qW (dck2 g) (N + 10) t).getD (99,t)
theorem lwk2 (K:Cont) (N:Nat) (g:Gr) (m:Int) (t:(Int × (Nat→Int))) (hg:yQY N g t=true):LFX (N + 10) (cxS Tf (ork0 N g m) (N + 10) 47 (ntmF Tf 47)) (evX Tf (ork0 N g m) (N + 10) 47 (ntmF Tf 47)) (qY []) (qQ Tf 47 [0,1,0,1,1,1,1,1,1]) [0,1,0,1,1,1,1,1,1] (Tf.hint 47 (qJ (qQ Tf 47 [0,1,0,1,1,1,1,1,1]))) K (N + 10) (hk2 N g m t.1 t.2)=kxk2 N g m K (zKU N g t):=by
 refine (wlk2 K N g m (N + 10) t).trans ?_;unfold yQY at hg;unfold zKU;cases h:qW (dck2 g) (N + 10) t with
 | none=>rw [h] at hg; cases hg
 | some y=>rfl
end Go.Proofs.Ytglkkhpdbfacfaa.Cm

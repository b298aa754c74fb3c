/- Part 13 of the texts behind the last one: rules and contracts. No condition. -/
import Derived.Test.YtglkkhpdbfacfaaBE12
open Bool renaming and_eq_true → vQJ, and_self → vZQ, true_and → vZW
open Nat renaming eq_of_beq_eq_true → vQU
open Go.IntKind renaming wrap → vYX
namespace Go.Proofs.Ytglkkhpdbfacfaa.Cd
open Go.Rx Rt Go.Sx Go.RowKit Ba Bb Bc Bd Be Bf Bi Bj Bk Bl Bh Bm Bn Bo Bp Bq Br Bs Bt Bu Bv Bw Bx By Bz Ca Cb Cc
noncomputable def oren (g:Gr) (a b:Int):OrS:=orS [(14,o_rn)] []
noncomputable def lsen (g:Gr) (a b:Int):List (List Nat × yK):=[]
set_option maxRecDepth 100000 in
theorem pxen (g:Gr) (a b:Int):qQK Tf (oren g a b) (qY (lsen g a b)) 60 12 [.a (gP g),.n .i64 a,.n .i64 b] =
 (bif (gF1 crn ern (a,(g.np:Int))) then (bif (gF1 crn ern (b,(g.np:Int))) then some (.v (.t [.n .i64 (a % (g.np:Int)),.n .i64 (b % (g.np:Int))]),[])
 else none)
 else none):=by kernel_rfl
theorem jUA (g:Gr) (a b:Int) (_:0 < g.np) (hp:g.np≤100):yY Try.prog 12 [.a (gP g),.n .i64 a,.n .i64 b] (.v (.t [.n .i64 (a % (g.np:Int)),.n .i64 (b % (g.np:Int))])):=by
 refine qG (N:=60) (LO:=qY (lsen g a b)) yV yX (yG (l:=[(14,o_rn)]) (m:=[]) ⟨jXH,trivial⟩ trivial) (fun p S hp => ?_) ?_
 ·refine qW (L:=qQ Tf 12) (l:=(lsen g a b)) (show AllP _ (lsen g a b) from trivial) p S hp
 ·refine (pxen g a b).trans ?_;have hk:0 < (g.np:Int)∧(g.np:Int)≤9223372036854775807:=by omega
  simp only [kW (C:=crn) (t:=(a,(g.np:Int))) hk,kW (C:=crn) (t:=(b,(g.np:Int))) hk,vYQ]
  try rfl
noncomputable def ptN (g:Gr) (a b:Int):Nat:=bif stF g a b 2 then g.np else 0
noncomputable def ptC (g:Gr) (a b:Int):Int:=bif stF g a b 2 then stC g a b 2 else 0
def cpt:Gr × Int × Int→Prop:=fun t=>match t with | (g,_,_)=>g.np≤100∧g.ne≤500
def ept:Gr × Int × Int→List PV:=fun t=>match t with | (g,a,b)=>[.a (gP g),.n .i64 a,.n .i64 b]
noncomputable def rpt:Gr × Int × Int→Ret:=fun t=>match t with | (g,a,b)=>.v (.t [.lf (ptN g a b) (fQ (ptV g a b)),.n .i64 (ptC g a b),.b (stF g a b 2)])
def dpt:List PV→Gr × Int × Int:=fun ps=>match ps with
 | [.a [.lf np pt,.lf ne ed],.n _ a,.n _ b]=>(⟨np,pt,ne,unFE ed⟩,a,b)
 | _=>(⟨0,fun _=>[],0,fun _=>unE []⟩,0,0)
noncomputable def o_pt:List PV→Option (Bool × Ret):=o_fm dpt cpt ept rpt
theorem kQY:qQY Try.prog 18 o_pt:=qQF fun t h=>by
 obtain ⟨g,a,b⟩:=t;exact jKL g a b h.1 h.2
end Go.Proofs.Ytglkkhpdbfacfaa.Cd
namespace Go.Proofs.Ytglkkhpdbfacfaa.Ce
end Go.Proofs.Ytglkkhpdbfacfaa.Ce
namespace Go.Proofs.Ytglkkhpdbfacfaa.Cm
open Go.Rx Rt Go.Sx Go.RowKit Ba Bb Bc Bd Be Bf Bi Bj Bk Bl Bh Bm Bn Bo Bp Bq Br Bs Bt Bu Bv Bw Bx By Bz
noncomputable def orro (N:Nat) (n:Nat) (_:Nat→Int) (x:Int):OrS:=orS [] []
noncomputable def hro (N:Nat) (n:Nat) (_:Nat→Int) (x:Int) (x:Int) (f:Nat→Int):St:=⟨[(0,.v (.n .i64 x)),(1,.p 1000002 0)],[(1000002,.blk [.o 1000001]),(1000001,.reg 3 1 (.fo n (fun v=>[.n .i64 (f v)])))]⟩
set_option maxRecDepth 100000 in
theorem rdro (G:St→Option (Ret × Mem)) (K:Cont) (N:Nat) (n:Nat) (h:Nat→Int) (x:Int) (x:Int) (f:Nat→Int):zH (N + 10) (cxS Tf (orro N n h x) (N + 10) 59 (ntmF Tf 59)) (evX Tf (orro N n h x) (N + 10) 59 (ntmF Tf 59)) (qY []) (qQ Tf 59 [0,0,1]) [0,0,1] (Tf.hint 59 (qJ (qQ Tf 59 [0,0,1]))) K G (hro N n h x x f) =
 (bif (inB x n) then (bif (!decide ((f (x).toNat)=x)) then (bif (inB x n) then (bif (inB (f (x).toNat) n) then (bif (inB x n) then (bif (inB x n) then (G (hro N n h x (bif (Nat.beq (x).toNat (x).toNat) then (f (f (x).toNat).toNat) else (f (x).toNat)) (fun v=>(bif (Nat.beq v (x).toNat) then (f (f (x).toNat).toNat) else (f v)))))
 else none)
 else none)
 else none)
 else none)
 else (K (.exit 0) ⟨[(0,.v (.n .i64 x))],[(1000002,.blk [.o 1000001]),(1000001,.reg 3 1 (.fo n (fun v=>[.n .i64 (f v)])))]⟩))
 else none):=by kernel_rfl
noncomputable def dcro (n:Nat):(Int × (Nat→Int))→(Int × (Nat→Int)) ⊕ (Nat × Int × (Nat→Int)):=fun t=>match t with | (x,f)=>(bif (inB x n) then (bif (!decide ((f (x).toNat)=x)) then (bif (inB (f (x).toNat) n) then (.inl ((bif (Nat.beq (x).toNat (x).toNat) then (f (f (x).toNat).toNat) else (f (x).toNat)),(fun v=>(bif (Nat.beq v (x).toNat) then (f (f (x).toNat).toNat) else (f v))))) else (.inr (1,(x,f)))) else (.inr (0,(x,f)))) else (.inr (1,(x,f))))
noncomputable def kxro (N:Nat) (n:Nat) (_:Nat→Int) (x:Int) (K:Cont) (w9:Nat × Int × (Nat→Int)):Option (Ret × Mem):=bif Nat.beq w9.1 0 then (K (.exit 0) ⟨[(0,.v (.n .i64 w9.2.1))],[(1000002,.blk [.o 1000001]),(1000001,.reg 3 1 (.fo n (fun v=>[.n .i64 (w9.2.2 v)])))]⟩) else none
theorem wlro (K:Cont) (N:Nat) (n:Nat) (h:Nat→Int) (x:Int):∀ n9 (t:(Int × (Nat→Int))),LFX (N + 10) (cxS Tf (orro N n h x) (N + 10) 59 (ntmF Tf 59)) (evX Tf (orro N n h x) (N + 10) 59 (ntmF Tf 59)) (qY []) (qQ Tf 59 [0,0,1]) [0,0,1] (Tf.hint 59 (qJ (qQ Tf 59 [0,0,1]))) K n9 (hro N n h x t.1 t.2)=(qU (dcro n) n9 t).bind (kxro N n h x K):=fun n9 t=>by
 refine kG (L:=LFX (N + 10) (cxS Tf (orro N n h x) (N + 10) 59 (ntmF Tf 59)) (evX Tf (orro N n h x) (N + 10) 59 (ntmF Tf 59)) (qY []) (qQ Tf 59 [0,0,1]) [0,0,1] (Tf.hint 59 (qJ (qQ Tf 59 [0,0,1]))) K) (stp:=zH (N + 10) (cxS Tf (orro N n h x) (N + 10) 59 (ntmF Tf 59)) (evX Tf (orro N n h x) (N + 10) 59 (ntmF Tf 59)) (qY []) (qQ Tf 59 [0,0,1]) [0,0,1] (Tf.hint 59 (qJ (qQ Tf 59 [0,0,1]))) K) (fun _ _=>rfl) (fun _=>rfl) (fun t=>hro N n h x t.1 t.2) (fun _=>True) (dcro n) (kxro N n h x K) (fun G t _ => ?_) (fun _ _ _ _=>trivial) n9 t trivial;obtain ⟨x,f⟩:=t;refine (rdro G K N n h x x f).trans ?_;dsimp only [dcro];cases (inB x n)
 ·rfl
 ·cases (!decide ((f (x).toNat)=x))
  ·rfl
  ·cases (inB (f (x).toNat) n)
   ·rfl
   ·rfl
noncomputable def yQU (N:Nat) (n:Nat) (t:(Int × (Nat→Int))):Bool:=(qU (dcro n) (N + 10) t).isSome
noncomputable def qGA (N:Nat) (n:Nat) (t:(Int × (Nat→Int))):Nat × Int × (Nat→Int):=(qU (dcro n) (N + 10) t).getD (99,t)
theorem lwro (K:Cont) (N:Nat) (n:Nat) (h:Nat→Int) (x:Int) (t:(Int × (Nat→Int))) (hg:yQU N n t=true):LFX (N + 10) (cxS Tf (orro N n h x) (N + 10) 59 (ntmF Tf 59)) (evX Tf (orro N n h x) (N + 10) 59 (ntmF Tf 59)) (qY []) (qQ Tf 59 [0,0,1]) [0,0,1] (Tf.hint 59 (qJ (qQ Tf 59 [0,0,1]))) K (N + 10) (hro N n h x t.1 t.2)=kxro N n h x K (qGA N n t):=by
 refine (wlro K N n h x (N + 10) t).trans ?_;unfold yQU at hg;unfold qGA;cases h:qU (dcro n) (N + 10) t with
 | none=>rw [h] at hg; cases hg
 | some y=>rfl
def UF (n:Nat) (f:Nat→Int):Prop:=∀ v,v < n→∃ w:Nat,f v=(w:Int)∧w≤v
inductive Rt (f:Nat→Int):Nat→Nat→Prop
 | here {u:Nat} (h:f u=(u:Int)):Rt f u u
 | up {u w r:Nat} (h:f u=(w:Int)) (hw:w < u) (hr:Rt f w r):Rt f u r
theorem Rt.fix {f:Nat→Int} {u r:Nat} (h:Rt f u r):f r=(r:Int):=by
 induction h with
 | here h=>exact h
 | up _ _ _ ih=>exact ih
theorem Rt.le {f:Nat→Int} {u r:Nat} (h:Rt f u r):r≤u:=by
 induction h with
 | here h=>exact Nat.le_refl _
 | up _ hw _ ih=>omega
theorem Rt.uniq {f:Nat→Int} {u r r':Nat} (h:Rt f u r) (h':Rt f u r'):r=r':=by
 induction h with
 | here h =>
  cases h' with
  | here _=>rfl
  | up h2 hw _=>omega
 | up h hw _ ih =>
  cases h' with
  | here h2=>omega
  | up h2 _ hr2 =>
   rw [h] at h2;have e:=Int.ofNat_inj.1 h2;subst e;exact ih hr2
theorem Rt.down {f:Nat→Int} {u w r:Nat} (h:Rt f u r) (e:f u=(w:Int)) (_:w ≠ u):Rt f w r:=by
 cases h with
 | here h2=>omega
 | up h2 _ hr =>
  rw [e] at h2;have e:=Int.ofNat_inj.1 h2;subst e;exact hr
theorem UF.ex {n:Nat} {f:Nat→Int} (h:UF n f) (u:Nat):u < n→∃ r,Rt f u r:=by
 induction u using Nat.strongRecOn with
 | _ u ih =>
  intro hu;obtain ⟨w,h1,h2⟩:=h u hu;by_cases e:w=u
  ·subst e; exact ⟨_,.here h1⟩
  ·obtain ⟨r,hr⟩:=ih w (by omega) (by omega);exact ⟨r,.up h1 (by omega) hr⟩
theorem UF.set {n:Nat} {f:Nat→Int} (h:UF n f) {x z:Nat} (hz:z≤x):UF n (setF f x (z:Int)):=fun v hv=>by
 by_cases e:v=x
 ·subst e; exact ⟨z,yU ..,hz⟩
 ·rw [zY e]; exact h v hv
theorem Rt.cut {f:Nat→Int} {x z:Nat} (hz:z < x) (hs:∀ s,Rt f x s→Rt f z s) (u:Nat):∀ s,Rt f u s→Rt (setF f x (z:Int)) u s:=by
 induction u using Nat.strongRecOn with
 | _ u ih =>
  intro s h;by_cases e:u=x
  ·subst e; exact .up (yU ..) hz (ih z hz s (hs s h))
  ·cases h with
   | here h=>exact .here (by rw [zY e]; exact h)
   | up h hw hr=>exact .up (by rw [zY e]; exact h) hw (ih _ hw _ hr)
theorem jWL {n:Nat}:∀ (M x:Nat) (f:Nat→Int),UF n f→x < n→x < M→∃ (r:Nat) (f':Nat→Int),qU (dcro n) M ((x:Int),f)=some (0,(r:Int),f')∧Rt f x r∧UF n f'∧(∀ u s,Rt f u s→Rt f' u s)∧∀ u s:Nat,f u=(s:Int)→f s=(s:Int)→f' u=(s:Int)
 | 0,x,f,_,_,h=>by omega
 | M + 1,x,f,hf,hx,hM=>by
  rw [qU];dsimp only [dcro];obtain ⟨w,hw,hwx⟩:=hf x hx;rw [zU hx,toN,hw,zU (show w < n by omega),vYQ];by_cases e:w=x
  ·subst e;rw [vYJ rfl];exact ⟨_,f,rfl,.here hw,hf,fun u s h=>h,fun u s h _=>h⟩
  ·rw [vYY (show ¬ (w:Int)=(x:Int) by omega)];obtain ⟨z,hz,hzw⟩:=hf w (by omega);simp only [Bool.not_false,vYQ,Nat.beq_refl,toN,hz];have hs:∀ s,Rt f x s→Rt f z s:=fun s h=>by
    have h1:=h.down hw e;by_cases e2:z=w
    ·subst e2; exact h1
    ·exact h1.down hz e2
   obtain ⟨r,f',q1,q2,q3,q4,q5⟩:=jWL M z (setF f x (z:Int)) (hf.set (by omega)) (by omega) (by omega);refine ⟨r,f',q1,?_,q3,fun u s h=>q4 u s (Rt.cut (by omega) hs u s h),fun u s h1 h2 => ?_⟩
   ·obtain ⟨r0,hr0⟩:=hf.ex x hx
    have:=(Rt.cut (x:=x) (by omega) hs z r0 (hs r0 hr0)).uniq q2
    subst this;exact hr0
   ·have hsx:s ≠ x:=fun e3=>by subst e3; rw [hw] at h2; omega
    refine q5 u s ?_ (by rw [zY hsx]; exact h2);by_cases e3:u=x
    ·subst e3;rw [hw] at h1;have e4:=Int.ofNat_inj.1 h1;subst e4;rw [yU,← hz,h2]
    ·rw [zY e3]; exact h1
noncomputable def roR (n:Nat) (h:Nat→Int) (x:Int):Int:=(qGA NN n (x,h)).2.1
noncomputable def roF (n:Nat) (h:Nat→Int) (x:Int):Nat→Int:=(qGA NN n (x,h)).2.2
theorem zZU {n:Nat} {h:Nat→Int} {x:Nat} (hf:UF n h) (hx:x < n) (_:n≤100):yQU NN n ((x:Int),h)=true∧(qGA NN n ((x:Int),h)).1=0∧∃ r:Nat,roR n h (x:Int)=(r:Int)∧Rt h x r∧UF n (roF n h (x:Int))∧(∀ u s,Rt h u s→Rt (roF n h (x:Int)) u s)∧∀ u s:Nat,h u=(s:Int)→h s=(s:Int)→roF n h (x:Int) u=(s:Int):=by
 obtain ⟨r,f',q1,q2,q3,q4,q5⟩:=jWL (NN + 10) x h hf hx (by rw [qYK]; omega);have ho:qGA NN n ((x:Int),h)=(0,(r:Int),f'):=by unfold qGA; rw [q1]; rfl
 refine ⟨by unfold yQU; rw [q1]; rfl,by rw [ho],r,by unfold roR; rw [ho],q2,?_,?_,?_⟩
 ·unfold roF; rw [ho]; exact q3
 ·unfold roF; rw [ho]; exact q4
 ·unfold roF; rw [ho]; exact q5
noncomputable def yVX (N:Nat) (n:Nat) (h:Nat→Int) (x:Int):List (List Nat × yK):=[([0,0,1],sumF (fun t:(Int × (Nat→Int))=>(hro N n h x t.1 t.2)) (fun σ=>(slI σ 0,rgI σ 1000001 0)) (fun t K=>(bif yQU N n t then kxro N n h x K (qGA N n t) else none)))]
set_option maxRecDepth 100000 in
theorem jHJ (N:Nat) (n:Nat) (h:Nat→Int) (x:Int):jZU Tf (orro N n h x) (qY (yVX N n h x)) (N + 10) 59 [.v (.n .i64 x),.p 1000000 0] [.gs 3 1 (.lf n (fQ h))] =
 (bif (gSt (hro N n h x x h) (hro N n h x x h)) then (bif (yQU N n (x,h)) then (bif (Nat.beq (qGA N n (x,h)).1 0) then some (.v (.t [.n .i64 (qGA N n (x,h)).2.1,.gs 3 1 (.lf n (fun v=>[.n .i64 ((qGA N n (x,h)).2.2 v)]))]),[])
 else none)
 else none)
 else none):=by kernel_rfl
theorem jQC (N:Nat) (n:Nat) (h:Nat→Int) (x:Int) (hN:N=NN) (hf:UF n h) (_:0≤x∧x < (n:Int)) (hn:n≤100):zVW Try.prog 59 [.v (.n .i64 x),.p 1000000 0] [.gs 3 1 (.lf n (fQ h))] (.n .i64 (roR n h x)) ([.gs 3 1 (.lf n (fQ (roF n h x)))]):=by
 refine zXA (N:=(N + 10)) (LO:=qY (yVX N n h x)) yV yX (yG (l:=[]) (m:=[]) trivial trivial) (fun p S hp => ?_) ?_
 ·refine qW (L:=qQ Tf 59) (l:=(yVX N n h x)) (show AllP _ (yVX N n h x) from ⟨?_,trivial⟩) p S hp
  ·dsimp only;refine yZ (T:=Tf) (o:=(orro N n h x)) (f:=59) (LO:=qY []) (p:=[0,0,1]) jQ ?_;intro t K r hr;obtain ⟨hg,hr⟩:=qZ hr
   skip
   exact (lwro K N n h x t hg).trans hr
 ·refine (jHJ N n h x).trans ?_;subst hN;obtain ⟨y,rfl⟩:∃ y:Nat,x=(y:Int):=⟨x.toNat,by omega⟩
  obtain ⟨s1,s2,_⟩:=zZU (x:=y) hf (by omega) hn;rw [yQ,s1,s2];rfl
def czr:Nat × (Nat→Int) × Int→Prop:=fun t=>match t with | (n,fh,x)=>UF n fh∧(0≤x∧x < (n:Int))∧n≤100
def hzr:Nat × (Nat→Int) × Int→List HV:=fun t=>match t with | (n,_,x)=>[.v (.n .i64 x),.p 1000000 0]
def ezr:Nat × (Nat→Int) × Int→List PV:=fun t=>match t with | (n,fh,_)=>[.gs 3 1 (.lf n (fQ fh))]
noncomputable def xzr:Nat × (Nat→Int) × Int→PV:=fun t=>match t with | (n,fh,x)=>.n .i64 (roR n fh x)
noncomputable def qzr:Nat × (Nat→Int) × Int→List PV:=fun t=>match t with | (n,fh,x)=>[.gs 3 1 (.lf n (fQ (roF n fh x)))]
def dzr:List HV→List PV→Nat × (Nat→Int) × Int:=fun hs ps=>match hs,ps with
 | [.v (.n _ x),_],[.gs _ _ (.lf n f)]=>(n,unFQ f,x)
 | _,_=>(0,fun _=>0,0)
noncomputable def o_zr:List HV→List PV→Option (Bool × (PV × List PV)):=o_fb dzr czr hzr ezr xzr qzr
theorem yWU:OneOkBk Try.prog 59 o_zr (Tf.gq 59) (Tf.gk 59):=by
 rw [show Tf.gk 59=true by kernel_rfl];refine kQA fun t h => ?_
 obtain ⟨n,fh,x⟩:=t;exact jQC NN n fh x rfl h.1 h.2.1 h.2.2
noncomputable def orhe (g:Gr) (e:Ed):OrS:=orS [] []
noncomputable def lshe (g:Gr) (e:Ed):List (List Nat × yK):=[]
set_option maxRecDepth 100000 in
theorem pxhe (g:Gr) (e:Ed):qQK Tf (orhe g e) (qY (lshe g e)) 60 60 [.a (gP g),.a (edP e)] =
 (bif (decide (0≤e.u)) then (bif (decide (e.u < (g.np:Int))) then (bif (decide (0≤e.v)) then (bif (decide (e.v < (g.np:Int))) then some (.v (.b true),[])
 else some (.v (.b false),[]))
 else some (.v (.b false),[]))
 else some (.v (.b false),[]))
 else some (.v (.b false),[])):=by kernel_rfl
theorem jUG (g:Gr) (e:Ed):yY Try.prog 60 [.a (gP g),.a (edP e)] (.v (.b (isP g e.u && isP g e.v))):=by
 refine qG (N:=60) (LO:=qY (lshe g e)) yV yX (yG (l:=[]) (m:=[]) trivial trivial) (fun p S hp => ?_) ?_
 ·refine qW (L:=qQ Tf 60) (l:=(lshe g e)) (show AllP _ (lshe g e) from trivial) p S hp
 ·refine (pxhe g e).trans ?_;unfold isP;cases decide (0≤e.u) <;> cases decide (e.u < (g.np:Int)) <;> cases decide (0≤e.v) <;> cases decide (e.v < (g.np:Int)) <;> rfl
def che:Gr × Ed→Prop:=fun t=>match t with | (_,_)=>True
def ehe:Gr × Ed→List PV:=fun t=>match t with | (g,e)=>[.a (gP g),.a (edP e)]
noncomputable def rhe:Gr × Ed→Ret:=fun t=>match t with | (g,e)=>.v (.b (isP g e.u && isP g e.v))
def dhe:List PV→Gr × Ed:=fun ps=>match ps with
 | [.a [.lf np pt,.lf ne ed],.a r]=>(⟨np,pt,ne,unFE ed⟩,unE r)
 | _=>(⟨0,fun _=>[],0,fun _=>unE []⟩,unE [])
noncomputable def o_he:List PV→Option (Bool × Ret):=o_fm dhe che ehe rhe
theorem kQG:qQY Try.prog 60 o_he:=qQF fun t h=>by
 obtain ⟨g,e⟩:=t;exact jUG g e
noncomputable def orru (s m:Int):OrS:=orS [] []
noncomputable def lsru (s m:Int):List (List Nat × yK):=[]
set_option maxRecDepth 100000 in
theorem pxru (s m:Int):qQK Tf (orru s m) (qY (lsru s m)) 60 61 [.n .i64 s,.n .i64 m] =
 (bif (decide (m=0)) then (bif (decide (s=1)) then some (.v (.b true),[])
 else some (.v (.b false),[]))
 else (bif (decide (m=1)) then (bif (decide (s=1)) then some (.v (.b true),[])
 else (bif (decide (s=0)) then some (.v (.b true),[])
 else some (.v (.b false),[])))
 else (bif (decide (m=2)) then (bif (!decide (s=2)) then some (.v (.b true),[])
 else some (.v (.b false),[]))
 else some (.v (.b false),[])))):=by kernel_rfl
theorem jKE (s m:Int):yY Try.prog 61 [.n .i64 s,.n .i64 m] (.v (.b (usB s m))):=by
 refine qG (N:=60) (LO:=qY (lsru s m)) yV yX (yG (l:=[]) (m:=[]) trivial trivial) (fun p S hp => ?_) ?_
 ·refine qW (L:=qQ Tf 61) (l:=(lsru s m)) (show AllP _ (lsru s m) from trivial) p S hp
 ·refine (pxru s m).trans ?_;unfold usB;cases decide (m=0) <;> cases decide (m=1) <;> cases decide (m=2) <;> cases decide (s=0) <;> cases decide (s=1) <;> cases decide (s=2) <;> rfl
def crm:Int × Int→Prop:=fun t=>match t with | (_,_)=>True
def erm:Int × Int→List PV:=fun t=>match t with | (s,m)=>[.n .i64 s,.n .i64 m]
noncomputable def rrm:Int × Int→Ret:=fun t=>match t with | (s,m)=>.v (.b (usB s m))
def drm:List PV→Int × Int:=fun ps=>match ps with
 | [.n _ a,.n _ b]=>(a,b)
 | _=>(0,0)
noncomputable def o_rm:List PV→Option (Bool × Ret):=o_fm drm crm erm rrm
theorem kQQ:qQY Try.prog 61 o_rm:=qQF fun t h=>by
 obtain ⟨s,m⟩:=t;exact jKE s m
noncomputable def ork0 (N:Nat) (g:Gr) (m:Int):OrS:=orS [(60,o_he),(61,o_rm)] [(59,o_zr)]
noncomputable def hk0 (N:Nat) (g:Gr) (m:Int) (i:Int) (f:Nat→Int):St:=⟨[(1,.v (.n .i64 m)),(2,.p 2 0),(4,.p 4 0),(18,.v (.n .i64 (g.np:Int))),(19,.v (.n .i64 i))],[(2,.blk [.v (.lf g.np g.pt),.v (.lf g.ne (fE g.ed))]),(4,.blk [.o 16]),(16,.reg 3 1 (.fo g.np (fun v=>[.n .i64 (f v)])))]⟩
set_option maxRecDepth 100000 in
theorem rdk0 (G:St→Option (Ret × Mem)) (K:Cont) (N:Nat) (g:Gr) (m:Int) (i:Int) (f:Nat→Int):zH (N + 10) (cxS Tf (ork0 N g m) (N + 10) 47 (ntmF Tf 47)) (evX Tf (ork0 N g m) (N + 10) 47 (ntmF Tf 47)) (qY []) (qQ Tf 47 [0,1,0,1,1,1]) [0,1,0,1,1,1] (Tf.hint 47 (qJ (qQ Tf 47 [0,1,0,1,1,1]))) K G (hk0 N g m i f) =
 (bif (decide (i < (g.np:Int))) then (bif (inB i g.np) then (G (hk0 N g m (vYX .i64 (i + 1)) (fun v=>(bif (Nat.beq v (i).toNat) then i else (f v)))))
 else none)
 else (K (.exit 0) ⟨[(1,.v (.n .i64 m)),(2,.p 2 0),(4,.p 4 0)],[(2,.blk [.v (.lf g.np g.pt),.v (.lf g.ne (fE g.ed))]),(4,.blk [.o 16]),(16,.reg 3 1 (.fo g.np (fun v=>[.n .i64 (f v)])))]⟩)):=by kernel_rfl
noncomputable def dck0 (g:Gr):(Int × (Nat→Int))→(Int × (Nat→Int)) ⊕ (Nat × Int × (Nat→Int)):=fun t=>match t with | (i,f)=>(bif (decide (i < (g.np:Int))) then (bif (inB i g.np) then (.inl ((vYX .i64 (i + 1)),(fun v=>(bif (Nat.beq v (i).toNat) then i else (f v))))) else (.inr (1,(i,f)))) else (.inr (0,(i,f))))
noncomputable def kxk0 (N:Nat) (g:Gr) (m:Int) (K:Cont) (w9:Nat × Int × (Nat→Int)):Option (Ret × Mem):=bif Nat.beq w9.1 0 then (K (.exit 0) ⟨[(1,.v (.n .i64 m)),(2,.p 2 0),(4,.p 4 0)],[(2,.blk [.v (.lf g.np g.pt),.v (.lf g.ne (fE g.ed))]),(4,.blk [.o 16]),(16,.reg 3 1 (.fo g.np (fun v=>[.n .i64 (w9.2.2 v)])))]⟩) else none
theorem wlk0 (K:Cont) (N:Nat) (g:Gr) (m:Int):∀ n9 (t:(Int × (Nat→Int))),LFX (N + 10) (cxS Tf (ork0 N g m) (N + 10) 47 (ntmF Tf 47)) (evX Tf (ork0 N g m) (N + 10) 47 (ntmF Tf 47)) (qY []) (qQ Tf 47 [0,1,0,1,1,1]) [0,1,0,1,1,1] (Tf.hint 47 (qJ (qQ Tf 47 [0,1,0,1,1,1]))) K n9 (hk0 N g m t.1 t.2)=(qU (dck0 g) n9 t).bind (kxk0 N g m K):=fun n9 t=>by
 refine kG (L:=LFX (N + 10) (cxS Tf (ork0 N g m) (N + 10) 47 (ntmF Tf 47)) (evX Tf (ork0 N g m) (N + 10) 47 (ntmF Tf 47)) (qY []) (qQ Tf 47 [0,1,0,1,1,1]) [0,1,0,1,1,1] (Tf.hint 47 (qJ (qQ Tf 47 [0,1,0,1,1,1]))) K) (stp:=zH (N + 10) (cxS Tf (ork0 N g m) (N + 10) 47 (ntmF Tf 47)) (evX Tf (ork0 N g m) (N + 10) 47 (ntmF Tf 47)) (qY []) (qQ Tf 47 [0,1,0,1,1,1]) [0,1,0,1,1,1] (Tf.hint 47 (qJ (qQ Tf 47 [0,1,0,1,1,1]))) K) (fun _ _=>rfl) (fun _=>rfl) (fun t=>hk0 N g m t.1 t.2) (fun _=>True) (dck0 g) (kxk0 N g m K) (fun G t _ => ?_) (fun _ _ _ _=>trivial) n9 t trivial;obtain ⟨i,f⟩:=t;refine (rdk0 G K N g m i f).trans ?_;dsimp only [dck0];cases (decide (i < (g.np:Int)))
 ·rfl
 ·cases (inB i g.np)
  ·rfl
  ·rfl
noncomputable def yQG (N:Nat) (g:Gr) (t:(Int × (Nat→Int))):Bool:=(qU (dck0 g) (N + 10) t).isSome
noncomputable def qJV (N:Nat) (g:Gr) (t:(Int × (Nat→Int))):Nat × Int × (Nat→Int):=(qU (dck0 g) (N + 10) t).getD (99,t)
theorem lwk0 (K:Cont) (N:Nat) (g:Gr) (m:Int) (t:(Int × (Nat→Int))) (hg:yQG N g t=true):LFX (N + 10) (cxS Tf (ork0 N g m) (N + 10) 47 (ntmF Tf 47)) (evX Tf (ork0 N g m) (N + 10) 47 (ntmF Tf 47)) (qY []) (qQ Tf 47 [0,1,0,1,1,1]) [0,1,0,1,1,1] (Tf.hint 47 (qJ (qQ Tf 47 [0,1,0,1,1,1]))) K (N + 10) (hk0 N g m t.1 t.2)=kxk0 N g m K (qJV N g t):=by
 refine (wlk0 K N g m (N + 10) t).trans ?_;unfold yQG at hg;unfold qJV;cases h:qU (dck0 g) (N + 10) t with
 | none=>rw [h] at hg; cases hg
 | some y=>rfl
noncomputable def hk1 (N:Nat) (g:Gr) (m:Int) (i:Int) (f:Nat→Int):St:=⟨[(1,.v (.n .i64 m)),(2,.p 2 0),(4,.p 4 0),(6,.g 59 [] [.p 4 0]),(29,.v (.lf g.ne (fE g.ed))),(30,.v (.n .i64 (g.ne:Int))),(31,.v (.n .i64 i))],[(2,.blk [.v (.lf g.np g.pt),.v (.lf g.ne (fE g.ed))]),(4,.blk [.o 16]),(16,.reg 3 1 (.fo g.np (fun v=>[.n .i64 (f v)])))]⟩
set_option maxRecDepth 100000 in
theorem rdk1 (G:St→Option (Ret × Mem)) (K:Cont) (N:Nat) (g:Gr) (m:Int) (i:Int) (f:Nat→Int):zH (N + 10) (cxS Tf (ork0 N g m) (N + 10) 47 (ntmF Tf 47)) (evX Tf (ork0 N g m) (N + 10) 47 (ntmF Tf 47)) (qY []) (qQ Tf 47 [0,1,0,1,1,1,1,1]) [0,1,0,1,1,1,1,1] (Tf.hint 47 (qJ (qQ Tf 47 [0,1,0,1,1,1,1,1]))) K G (hk1 N g m i f) =
 (bif (decide (i < (g.ne:Int))) then (bif (inB i g.ne) then (bif (gF1 che ehe (g,(g.ed (i).toNat))) then (bif (isP g (g.ed (i).toNat).u && isP g (g.ed (i).toNat).v) then (bif (gF1 crm erm (((g.ed (i).toNat).s),m)) then (bif (usB ((g.ed (i).toNat).s) m) then (bif (gB1 czr hzr ezr (g.np,f,((g.ed (i).toNat).u))) then (bif (gB1 czr hzr ezr (g.np,(fun v=>((roF g.np f ((g.ed (i).toNat).u)) v)),((g.ed (i).toNat).v))) then (bif (inB (max (roR g.np f ((g.ed (i).toNat).u)) (roR g.np (fun v=>((roF g.np f ((g.ed (i).toNat).u)) v)) ((g.ed (i).toNat).v))) g.np) then (G (hk1 N g m (vYX .i64 (i + 1)) (fun v=>(bif (Nat.beq v (max (roR g.np f ((g.ed (i).toNat).u)) (roR g.np (fun v=>((roF g.np f ((g.ed (i).toNat).u)) v)) ((g.ed (i).toNat).v))).toNat) then (min (roR g.np f ((g.ed (i).toNat).u)) (roR g.np (fun v=>((roF g.np f ((g.ed (i).toNat).u)) v)) ((g.ed (i).toNat).v))) else ((roF g.np (fun v=>((roF g.np f ((g.ed (i).toNat).u)) v)) ((g.ed (i).toNat).v)) v)))))
 else none)
 else none)
 else none)
 else (G (hk1 N g m (vYX .i64 (i + 1)) (fun v=>(f v)))))
 else none)
 else (G (hk1 N g m (vYX .i64 (i + 1)) (fun v=>(f v)))))
 else none)
 else none)
 else (K (.exit 2) ⟨[(4,.p 4 0),(6,.g 59 [] [.p 4 0])],[(4,.blk [.o 16]),(16,.reg 3 1 (.fo g.np (fun v=>[.n .i64 (f v)])))]⟩)):=by kernel_rfl
noncomputable def dck1 (g:Gr) (m:Int):(Int × (Nat→Int))→(Int × (Nat→Int)) ⊕ (Nat × Int × (Nat→Int)):=fun t=>match t with | (i,f)=>(bif (decide (i < (g.ne:Int))) then (bif (inB i g.ne) then (bif (gF1 che ehe (g,(g.ed (i).toNat))) then (bif (isP g (g.ed (i).toNat).u && isP g (g.ed (i).toNat).v) then (bif (gF1 crm erm (((g.ed (i).toNat).s),m)) then (bif (usB ((g.ed (i).toNat).s) m) then (bif (gB1 czr hzr ezr (g.np,f,((g.ed (i).toNat).u))) then (bif (gB1 czr hzr ezr (g.np,(fun v=>((roF g.np f ((g.ed (i).toNat).u)) v)),((g.ed (i).toNat).v))) then (bif (inB (max (roR g.np f ((g.ed (i).toNat).u)) (roR g.np (fun v=>((roF g.np f ((g.ed (i).toNat).u)) v)) ((g.ed (i).toNat).v))) g.np) then (.inl ((vYX .i64 (i + 1)),(fun v=>(bif (Nat.beq v (max (roR g.np f ((g.ed (i).toNat).u)) (roR g.np (fun v=>((roF g.np f ((g.ed (i).toNat).u)) v)) ((g.ed (i).toNat).v))).toNat) then (min (roR g.np f ((g.ed (i).toNat).u)) (roR g.np (fun v=>((roF g.np f ((g.ed (i).toNat).u)) v)) ((g.ed (i).toNat).v))) else ((roF g.np (fun v=>((roF g.np f ((g.ed (i).toNat).u)) v)) ((g.ed (i).toNat).v)) v))))) else (.inr (1,(i,f)))) else (.inr (1,(i,f)))) else (.inr (1,(i,f)))) else (.inl ((vYX .i64 (i + 1)),(fun v=>(f v))))) else (.inr (1,(i,f)))) else (.inl ((vYX .i64 (i + 1)),(fun v=>(f v))))) else (.inr (1,(i,f)))) else (.inr (1,(i,f)))) else (.inr (0,(i,f))))
noncomputable def kxk1 (N:Nat) (g:Gr) (m:Int) (K:Cont) (w9:Nat × Int × (Nat→Int)):Option (Ret × Mem):=bif Nat.beq w9.1 0 then (K (.exit 2) ⟨[(4,.p 4 0),(6,.g 59 [] [.p 4 0])],[(4,.blk [.o 16]),(16,.reg 3 1 (.fo g.np (fun v=>[.n .i64 (w9.2.2 v)])))]⟩) else none
theorem wlk1 (K:Cont) (N:Nat) (g:Gr) (m:Int):∀ n9 (t:(Int × (Nat→Int))),LFX (N + 10) (cxS Tf (ork0 N g m) (N + 10) 47 (ntmF Tf 47)) (evX Tf (ork0 N g m) (N + 10) 47 (ntmF Tf 47)) (qY []) (qQ Tf 47 [0,1,0,1,1,1,1,1]) [0,1,0,1,1,1,1,1] (Tf.hint 47 (qJ (qQ Tf 47 [0,1,0,1,1,1,1,1]))) K n9 (hk1 N g m t.1 t.2)=(qU (dck1 g m) n9 t).bind (kxk1 N g m K):=fun n9 t=>by
 refine kG (L:=LFX (N + 10) (cxS Tf (ork0 N g m) (N + 10) 47 (ntmF Tf 47)) (evX Tf (ork0 N g m) (N + 10) 47 (ntmF Tf 47)) (qY []) (qQ Tf 47 [0,1,0,1,1,1,1,1]) [0,1,0,1,1,1,1,1] (Tf.hint 47 (qJ (qQ Tf 47 [0,1,0,1,1,1,1,1]))) K) (stp:=zH (N + 10) (cxS Tf (ork0 N g m) (N + 10) 47 (ntmF Tf 47)) (evX Tf (ork0 N g m) (N + 10) 47 (ntmF Tf 47)) (qY []) (qQ Tf 47 [0,1,0,1,1,1,1,1]) [0,1,0,1,1,1,1,1] (Tf.hint 47 (qJ (qQ Tf 47 [0,1,0,1,1,1,1,1]))) K) (fun _ _=>rfl) (fun _=>rfl) (fun t=>hk1 N g m t.1 t.2) (fun _=>True) (dck1 g m) (kxk1 N g m K) (fun G t _ => ?_) (fun _ _ _ _=>trivial) n9 t trivial;obtain ⟨i,f⟩:=t;refine (rdk1 G K N g m i f).trans ?_;dsimp only [dck1];cases (decide (i < (g.ne:Int)))
 ·rfl
 ·cases (inB i g.ne)
  ·rfl
  ·cases (gF1 che ehe (g,(g.ed (i).toNat)))
   ·rfl
   ·cases (isP g (g.ed (i).toNat).u && isP g (g.ed (i).toNat).v)
    ·rfl
    ·cases (gF1 crm erm (((g.ed (i).toNat).s),m))
     ·rfl
     ·cases (usB ((g.ed (i).toNat).s) m)
      ·rfl
      ·cases (gB1 czr hzr ezr (g.np,f,((g.ed (i).toNat).u)))
       ·rfl
       ·cases (gB1 czr hzr ezr (g.np,(fun v=>((roF g.np f ((g.ed (i).toNat).u)) v)),((g.ed (i).toNat).v)))
        ·rfl
        ·cases (inB (max (roR g.np f ((g.ed (i).toNat).u)) (roR g.np (fun v=>((roF g.np f ((g.ed (i).toNat).u)) v)) ((g.ed (i).toNat).v))) g.np)
         ·rfl
         ·rfl
noncomputable def yQV (N:Nat) (g:Gr) (m:Int) (t:(Int × (Nat→Int))):Bool:=(qU (dck1 g m) (N + 10) t).isSome
noncomputable def qVQ (N:Nat) (g:Gr) (m:Int) (t:(Int × (Nat→Int))):Nat × Int × (Nat→Int):=(qU (dck1 g m) (N + 10) t).getD (99,t)
theorem lwk1 (K:Cont) (N:Nat) (g:Gr) (m:Int) (t:(Int × (Nat→Int))) (hg:yQV N g m t=true):LFX (N + 10) (cxS Tf (ork0 N g m) (N + 10) 47 (ntmF Tf 47)) (evX Tf (ork0 N g m) (N + 10) 47 (ntmF Tf 47)) (qY []) (qQ Tf 47 [0,1,0,1,1,1,1,1]) [0,1,0,1,1,1,1,1] (Tf.hint 47 (qJ (qQ Tf 47 [0,1,0,1,1,1,1,1]))) K (N + 10) (hk1 N g m t.1 t.2)=kxk1 N g m K (qVQ N g m t):=by
 refine (wlk1 K N g m (N + 10) t).trans ?_;unfold yQV at hg;unfold qVQ;cases h:qU (dck1 g m) (N + 10) t with
 | none=>rw [h] at hg; cases hg
 | some y=>rfl
noncomputable def hk2 (N:Nat) (g:Gr) (m:Int) (i:Int) (f:Nat→Int):St:=⟨[(4,.p 4 0),(6,.g 59 [] [.p 4 0]),(62,.v (.n .i64 (g.np:Int))),(63,.v (.n .i64 i))],[(4,.blk [.o 16]),(16,.reg 3 1 (.fo g.np (fun v=>[.n .i64 (f v)])))]⟩
set_option maxRecDepth 100000 in
theorem rdk2 (G:St→Option (Ret × Mem)) (K:Cont) (N:Nat) (g:Gr) (m:Int) (i:Int) (f:Nat→Int):zH (N + 10) (cxS Tf (ork0 N g m) (N + 10) 47 (ntmF Tf 47)) (evX Tf (ork0 N g m) (N + 10) 47 (ntmF Tf 47)) (qY []) (qQ Tf 47 [0,1,0,1,1,1,1,1,1]) [0,1,0,1,1,1,1,1,1] (Tf.hint 47 (qJ (qQ Tf 47 [0,1,0,1,1,1,1,1,1]))) K G (hk2 N g m i f) =
 (bif (decide (i < (g.np:Int))) then (bif (gB1 czr hzr ezr (g.np,f,i)) then (bif (inB i g.np) then (G (hk2 N g m (vYX .i64 (i + 1)) (fun v=>(bif (Nat.beq v (i).toNat) then (roR g.np f i) else ((roF g.np f i) v)))))
 else none)
 else none)
 else (K (.exit 4) ⟨[(4,.p 4 0)],[(4,.blk [.o 16]),(16,.reg 3 1 (.fo g.np (fun v=>[.n .i64 (f v)])))]⟩)):=by kernel_rfl
noncomputable def dck2 (g:Gr):(Int × (Nat→Int))→(Int × (Nat→Int)) ⊕ (Nat × Int × (Nat→Int)):=fun t=>match t with | (i,f)=>(bif (decide (i < (g.np:Int))) then (bif (gB1 czr hzr ezr (g.np,f,i)) then (bif (inB i g.np) then (.inl ((vYX .i64 (i + 1)),(fun v=>(bif (Nat.beq v (i).toNat) then (roR g.np f i) else ((roF g.np f i) v))))) else (.inr (1,(i,f)))) else (.inr (1,(i,f)))) else (.inr (0,(i,f))))
noncomputable def kxk2 (N:Nat) (g:Gr) (m:Int) (K:Cont) (w9:Nat × Int × (Nat→Int)):Option (Ret × Mem):=bif Nat.beq w9.1 0 then (K (.exit 4) ⟨[(4,.p 4 0)],[(4,.blk [.o 16]),(16,.reg 3 1 (.fo g.np (fun v=>[.n .i64 (w9.2.2 v)])))]⟩) else none
theorem wlk2 (K:Cont) (N:Nat) (g:Gr) (m:Int):∀ n9 (t:(Int × (Nat→Int))),LFX (N + 10) (cxS Tf (ork0 N g m) (N + 10) 47 (ntmF Tf 47)) (evX Tf (ork0 N g m) (N + 10) 47 (ntmF Tf 47)) (qY []) (qQ Tf 47 [0,1,0,1,1,1,1,1,1]) [0,1,0,1,1,1,1,1,1] (Tf.hint 47 (qJ (qQ Tf 47 [0,1,0,1,1,1,1,1,1]))) K n9 (hk2 N g m t.1 t.2)=(qU (dck2 g) n9 t).bind (kxk2 N g m K):=fun n9 t=>by
 refine kG (L:=LFX (N + 10) (cxS Tf (ork0 N g m) (N + 10) 47 (ntmF Tf 47)) (evX Tf (ork0 N g m) (N + 10) 47 (ntmF Tf 47)) (qY []) (qQ Tf 47 [0,1,0,1,1,1,1,1,1]) [0,1,0,1,1,1,1,1,1] (Tf.hint 47 (qJ (qQ Tf 47 [0,1,0,1,1,1,1,1,1]))) K) (stp:=zH (N + 10) (cxS Tf (ork0 N g m) (N + 10) 47 (ntmF Tf 47)) (evX Tf (ork0 N g m) (N + 10) 47 (ntmF Tf 47)) (qY []) (qQ Tf 47 [0,1,0,1,1,1,1,1,1]) [0,1,0,1,1,1,1,1,1] (Tf.hint 47 (qJ (qQ Tf 47 [0,1,0,1,1,1,1,1,1]))) K) (fun _ _=>rfl) (fun _=>rfl) (fun t=>hk2 N g m t.1 t.2) (fun _=>True) (dck2 g) (kxk2 N g m K) (fun G t _ => ?_) (fun _ _ _ _=>trivial) n9 t trivial;obtain ⟨i,f⟩:=t;refine (rdk2 G K N g m i f).trans ?_;dsimp only [dck2];cases (decide (i < (g.np:Int)))
 ·rfl
 ·cases (gB1 czr hzr ezr (g.np,f,i))
  ·rfl
  ·cases (inB i g.np)
   ·rfl
   ·rfl
noncomputable def yQW (N:Nat) (g:Gr) (t:(Int × (Nat→Int))):Bool:=(qU (dck2 g) (N + 10) t).isSome
noncomputable def zKW (N:Nat) (g:Gr) (t:(Int × (Nat→Int))):Nat × Int × (Nat→Int):=(qU (dck2 g) (N + 10) t).getD (99,t)
theorem lwk2 (K:Cont) (N:Nat) (g:Gr) (m:Int) (t:(Int × (Nat→Int))) (hg:yQW N g t=true):LFX (N + 10) (cxS Tf (ork0 N g m) (N + 10) 47 (ntmF Tf 47)) (evX Tf (ork0 N g m) (N + 10) 47 (ntmF Tf 47)) (qY []) (qQ Tf 47 [0,1,0,1,1,1,1,1,1]) [0,1,0,1,1,1,1,1,1] (Tf.hint 47 (qJ (qQ Tf 47 [0,1,0,1,1,1,1,1,1]))) K (N + 10) (hk2 N g m t.1 t.2)=kxk2 N g m K (zKW N g t):=by
 refine (wlk2 K N g m (N + 10) t).trans ?_;unfold yQW at hg;unfold zKW;cases h:qU (dck2 g) (N + 10) t with
 | none=>rw [h] at hg; cases hg
 | some y=>rfl
end Go.Proofs.Ytglkkhpdbfacfaa.Cm
namespace Go.Proofs.Ytglkkhpdbfacfaa.Cn
open Go.Rx Rt Go.Sx Go.RowKit Ba Bb Bc Bd Be Bf Bi Bj Bk Bl Bh Bm Bn Bo Bp Bq Br Bs Bt Bu Bv Bw Bx By Bz Cm
inductive Ljn (g:Gr) (m:Int) (i:Nat):Nat→Nat→Prop
 | refl (u:Nat):Ljn g m i u u
 | step {u v w:Nat} {c:Int} (h:Ljn g m i u v) (hj:Jn g m i v (w:Int) c):Ljn g m i u w
theorem Ljn.trans {g:Gr} {m:Int} {i u v w:Nat} (h:Ljn g m i u v) (h':Ljn g m i v w):Ljn g m i u w:=by
 induction h' with
 | refl=>exact h
 | step _ hj ih=>exact .step ih hj
theorem Jn.swap {g:Gr} {m:Int} (hw:wfB g=true) {i:Nat} (_:i≤g.ne) {v w:Nat} {c:Int} (h:Jn g m i v (w:Int) c):Jn g m i w (v:Int) c:=by
 obtain ⟨e,h1,h2,h3,h4⟩:=h;obtain ⟨e1,e2,e3,_,_⟩:=jU hw (show e < g.ne by omega);refine ⟨e,h1,h2,h3,?_⟩;rcases h4 with ⟨h4,h5⟩ | ⟨h4,h5⟩
 ·exact .inr ⟨by omega,by omega⟩
 ·exact .inl ⟨by omega,by omega⟩
theorem Ljn.symm {g:Gr} {m:Int} (hw:wfB g=true) {i:Nat} (hi:i≤g.ne) {u v:Nat} (h:Ljn g m i u v):Ljn g m i v u:=by
 induction h with
 | refl=>exact .refl _
 | step _ hj ih=>exact (Ljn.step (.refl _) (Jn.swap hw hi hj)).trans ih
theorem Jn.up {g:Gr} {m:Int} {i j:Nat} (_:i≤j) {v:Nat} {w c:Int} (h:Jn g m i v w c):Jn g m j v w c:=by
 obtain ⟨e,h1,h2⟩:=h;exact ⟨e,by omega,h2⟩
theorem Ljn.up {g:Gr} {m:Int} {i j:Nat} (hi:i≤j) {u v:Nat} (h:Ljn g m i u v):Ljn g m j u v:=by
 induction h with
 | refl=>exact .refl _
 | step _ hj ih=>exact .step ih (Jn.up hi hj)
theorem zJA {f:Nat→Int} {x:Nat} {z:Int} (h:f x=z):setF f x z=f:=funext fun v=>by
 by_cases e:v=x
 ·subst e; rw [yU,h]
 ·rw [zY e]
theorem Rt.union {f:Nat→Int} {lo hi:Nat} (hl:f lo=(lo:Int)) (_:f hi=(hi:Int)) (_:lo≤hi) {u s:Nat} (h:Rt f u s):Rt (setF f hi (lo:Int)) u (if s=hi then lo else s):=by
 by_cases e:lo=hi
 ·subst e;rw [zJA hl];by_cases e2:s=lo
  ·rw [if_pos e2,← e2]; exact h
  ·rw [if_neg e2]; exact h
 ·induction h with
  | @here u h =>
   by_cases e2:u=hi
   ·subst e2;rw [if_pos rfl];exact .up (yU ..) (by omega) (.here (by rw [zY e]; exact hl))
   ·rw [if_neg e2];exact .here (by rw [zY e2]; exact h)
  | @up u w r h hw _ ih =>
   have hne:u ≠ hi:=fun e3=>by subst e3; omega
   exact .up (by rw [zY hne]; exact h) hw ih
structure KI (g:Gr) (m:Int) (i:Nat) (f:Nat→Int):Prop where
 uf:UF g.np f
 so:∀ u r,u < g.np→Rt f u r→Ljn g m i u r
 co:∀ e,e < i→usB (g.ed e).s m=true→∃ r,Rt f (g.ed e).u.toNat r∧Rt f (g.ed e).v.toNat r
theorem KI.skip {g:Gr} {m:Int} {i:Nat} {f:Nat→Int} (h:KI g m i f) (hu:usB (g.ed i).s m=false):KI g m (i + 1) f:=⟨h.uf,fun u r hu hr=>(h.so u r hu hr).up (by omega),fun e he hs=>by
 by_cases e2:e=i
 ·subst e2; rw [hu] at hs; cases hs
 ·exact h.co e (by omega) hs⟩
theorem KI.union {g:Gr} {m:Int} {i:Nat} {f f2:Nat→Int} (h:KI g m i f) (hw:wfB g=true) (hi:i < g.ne) (hus:usB (g.ed i).s m=true) (huf:UF g.np f2) (hrt:∀ u s,Rt f u s→Rt f2 u s) {r1 r2:Nat} (h1:Rt f (g.ed i).u.toNat r1) (h2:Rt f (g.ed i).v.toNat r2):KI g m (i + 1) (setF f2 (max r1 r2) ((min r1 r2:Nat):Int)):=by
 obtain ⟨e1,e2,e3,_,_⟩:=jU hw hi;have q1:=hrt _ _ h1;have q2:=hrt _ _ h2;have f1:=q1.fix;have f2':=q2.fix;have hlo:f2 (min r1 r2)=((min r1 r2:Nat):Int):=by
  by_cases e:r1≤r2
  ·rw [Nat.min_eq_left e]; exact f1
  ·rw [Nat.min_eq_right (by omega)]; exact f2'
 have hhi:f2 (max r1 r2)=((max r1 r2:Nat):Int):=by
  by_cases e:r1≤r2
  ·rw [Nat.max_eq_right e]; exact f2'
  ·rw [Nat.max_eq_left (by omega)]; exact f1
 have un:∀ {u s},Rt f2 u s→Rt (setF f2 (max r1 r2) ((min r1 r2:Nat):Int)) u (if s=max r1 r2 then min r1 r2 else s):=fun h=>Rt.union hlo hhi (by omega) h
 have hle:=q1.le;have hle2:=q2.le;have uf3:UF g.np (setF f2 (max r1 r2) ((min r1 r2:Nat):Int)):=huf.set (by omega);have ab:Ljn g m (i + 1) (g.ed i).u.toNat (g.ed i).v.toNat:=.step (.refl _) (c:=(g.ed i).c) ⟨i,by omega,hus,rfl,.inl ⟨rfl,by omega⟩⟩;have l1:=(h.so _ _ (by omega) h1).up (show i≤i + 1 by omega);have l2:=(h.so _ _ (by omega) h2).up (show i≤i + 1 by omega);have r12:Ljn g m (i + 1) r1 r2:=(l1.symm hw (by omega)).trans (ab.trans l2);have hl:Ljn g m (i + 1) (max r1 r2) (min r1 r2):=by
  by_cases e:r1≤r2
  ·rw [Nat.max_eq_right e,Nat.min_eq_left e]; exact r12.symm hw (by omega)
  ·rw [Nat.max_eq_left (by omega),Nat.min_eq_right (by omega)]; exact r12
 refine ⟨uf3,fun u r hu hr => ?_,fun e he hs => ?_⟩
 ·obtain ⟨r0,hr0⟩:=h.uf.ex u hu;have l0:=(h.so u r0 hu hr0).up (show i≤i + 1 by omega)
  have:=(un (hrt _ _ hr0)).uniq hr
  subst this;by_cases e:r0=max r1 r2
  ·rw [if_pos e];rw [e] at l0;exact l0.trans hl
  ·rw [if_neg e]; exact l0
 ·by_cases e2:e=i
  ·subst e2;refine ⟨min r1 r2,?_,?_⟩
   ·have:=un q1
    rw [show (if r1=max r1 r2 then min r1 r2 else r1)=min r1 r2 from by split <;> omega] at this;exact this
   ·have:=un q2
    rw [show (if r2=max r1 r2 then min r1 r2 else r2)=min r1 r2 from by split <;> omega] at this;exact this
  ·obtain ⟨r,g1,g2⟩:=h.co e (by omega) hs;exact ⟨_,un (hrt _ _ g1),un (hrt _ _ g2)⟩
noncomputable def uniF (g:Gr) (f:Nat→Int) (i:Nat):Nat→Int:=setF (roF g.np (roF g.np f (g.ed i).u) (g.ed i).v) (max (roR g.np f (g.ed i).u) (roR g.np (roF g.np f (g.ed i).u) (g.ed i).v)).toNat (min (roR g.np f (g.ed i).u) (roR g.np (roF g.np f (g.ed i).u) (g.ed i).v))
noncomputable def nxK (g:Gr) (m:Int) (i:Nat) (f:Nat→Int):Nat→Int:=bif usB (g.ed i).s m then uniF g f i else f
theorem qHJ {g:Gr} {m:Int} (hw:wfB g=true) (hp:g.np≤100) (_:g.ne≤500) {i:Nat} (hi:i < g.ne) {f:Nat→Int} (h:KI g m i f):dck1 g m ((i:Int),f)=.inl (((i + 1:Nat):Int),nxK g m i f)∧KI g m (i + 1) (nxK g m i f):=by
 obtain ⟨e1,e2,e3,e4,_⟩:=jU hw hi;have pu:isP g (g.ed i).u=true:=by unfold isP; rw [vYJ e1,vYJ (by omega)]; rfl
 have pv:isP g (g.ed i).v=true:=by unfold isP; rw [vYJ (show 0≤(g.ed i).v by omega),vYJ (by omega)]; rfl
 unfold nxK;cases hu:usB (g.ed i).s m with
 | false =>
  refine ⟨?_,h.skip hu⟩;dsimp only [dck1];simp only [toN,vYJ (show (i:Int) < (g.ne:Int) by omega),zU hi,uK (show i < 1000000 by omega),kW (C:=che) (t:=(g,g.ed i)) trivial,kW (C:=crm) (t:=((g.ed i).s,m)) trivial,pu,pv,hu,vZQ,vYQ,vYZ]
 | true =>
  obtain ⟨a,ha⟩:∃ a:Nat,(g.ed i).u=(a:Int):=⟨(g.ed i).u.toNat,by omega⟩
  obtain ⟨b,hb⟩:∃ b:Nat,(g.ed i).v=(b:Int):=⟨(g.ed i).v.toNat,by omega⟩
  obtain ⟨_,_,r1,a1,a2,a3,a4,_⟩:=zZU (x:=a) h.uf (by omega) hp;obtain ⟨_,_,r2,b1,b2,b3,b4,_⟩:=zZU (x:=b) a3 (by omega) hp;obtain ⟨r3,hr3⟩:=h.uf.ex b (by omega);have e5:=(a4 _ _ hr3).uniq b2;subst e5;have hmx:(max (r1:Int) (r3:Int)).toNat=max r1 r3:=by omega
  have hmn:min (r1:Int) (r3:Int)=((min r1 r3:Nat):Int):=by omega
  have hle:=a2.le;have hle2:=hr3.le;constructor
  ·dsimp only [dck1];simp only [toN,vYJ (show (i:Int) < (g.ne:Int) by omega),zU hi,uK (show i < 1000000 by omega),kW (C:=che) (t:=(g,g.ed i)) trivial,kW (C:=crm) (t:=((g.ed i).s,m)) trivial,pu,pv,hu,vZQ,vYQ];rw [qGL (C:=czr) (t:=(g.np,f,(g.ed i).u)) ⟨h.uf,by omega,hp⟩,qGL (C:=czr) (t:=(g.np,roF g.np f (g.ed i).u,(g.ed i).v)) ⟨by rw [ha]; exact a3,by omega,hp⟩];have hm:inB (max (roR g.np f (g.ed i).u) (roR g.np (roF g.np f (g.ed i).u) (g.ed i).v)) g.np=true:=by
    rw [ha,hb,a1,b1];unfold inB;rw [vYJ (by omega),vYJ (by omega)]; rfl
   rw [hm];rfl
  ·unfold uniF;rw [vYQ,ha,hb,a1,b1,hmx,hmn];exact h.union hw hi hu b3 (fun u s h=>b4 u s (a4 u s h)) (by rw [ha]; exact a2) (by rw [hb]; exact hr3)
theorem yGD {g:Gr} {m:Int} {f:Nat→Int}:dck1 g m ((g.ne:Int),f)=.inr (0,(g.ne:Int),f):=by
 dsimp only [dck1];rw [vYY (by omega)]; rfl
theorem kZH {g:Gr} {m:Int} (hw:wfB g=true) (hp:g.np≤100) (hn:g.ne≤500) {N:Nat} (hN:g.ne < N) {f0:Nat→Int} (h0:KI g m 0 f0):∃ f,qU (dck1 g m) N (0,f0)=some (0,(g.ne:Int),f)∧KI g m g.ne f:=by
 have h1:=jZ (dec:=dck1 g m) (nx:=nxK g m) (Q:=KI g m) (out:=fun s=>((g.ne:Int),s)) (c:=g.ne) (fun i s hi hq=>(qHJ hw hp hn hi hq).1) (fun i s hi hq=>(qHJ hw hp hn hi hq).2) (fun s _=>yGD) g.ne 0 N f0 (by omega) hN h0;exact ⟨_,h1,jG (Q:=KI g m) (c:=g.ne) (nx:=nxK g m) (fun i s hi hq=>(qHJ hw hp hn hi hq).2) g.ne 0 f0 (by omega) h0⟩
theorem kZA {g:Gr} (_:g.np≤100) {N:Nat} (hN:g.np < N) (f0:Nat→Int):∃ f:Nat→Int,qU (dck0 g) N (0,f0)=some (0,(g.np:Int),f)∧∀ v,v < g.np→f v=(v:Int):=by
 have h1:=jZ (dec:=dck0 g) (nx:=fun (i:Nat) (s:Nat→Int)=>setF s i (i:Int)) (Q:=fun _ _=>True) (out:=fun s=>((g.np:Int),s)) (c:=g.np) (fun i s hi _=>by
  dsimp only [dck0];rw [vYJ (show (i:Int) < (g.np:Int) by omega),zU hi,uK (show i < 1000000 by omega)]
  rfl) (fun _ _ _ _=>trivial) (fun s _=>by
  dsimp only [dck0];rw [vYY (by omega)]; rfl) g.np 0 N f0 (by omega) hN trivial
 have h2:=jG (Q:=fun (i:Nat) (s:Nat→Int)=>∀ v,v < i→s v=(v:Int)) (c:=g.np) (nx:=fun (i:Nat) (s:Nat→Int)=>setF s i (i:Int)) (fun i s hi hq=>fun v hv=>by
  by_cases e:v=i
  ·subst e; rw [yU]
  ·rw [zY e]; exact hq v (by omega)) g.np 0 f0 (by omega) (fun v hv=>absurd hv (Nat.not_lt_zero v))
 exact ⟨_,h1,h2⟩
structure FI (n:Nat) (f0:Nat→Int) (i:Nat) (f:Nat→Int):Prop where
 uf:UF n f
 rt:∀ u s,Rt f0 u s→Rt f u s
 fl:∀ v,v < i→∃ s:Nat,f v=(s:Int)∧f s=(s:Int)∧s≤v
theorem qHY {g:Gr} (hp:g.np≤100) {f0:Nat→Int} {i:Nat} (hi:i < g.np) {f:Nat→Int} (h:FI g.np f0 i f):dck2 g ((i:Int),f)=.inl (((i + 1:Nat):Int),setF (roF g.np f (i:Int)) i (roR g.np f (i:Int)))∧FI g.np f0 (i + 1) (setF (roF g.np f (i:Int)) i (roR g.np f (i:Int))):=by
 obtain ⟨_,_,r,a1,a2,a3,a4,a5⟩:=zZU (x:=i) h.uf hi hp;have q:=a4 _ _ a2;have hle:=a2.le;have fr:=q.fix;constructor
 ·dsimp only [dck2];rw [vYJ (show (i:Int) < (g.np:Int) by omega),zU hi,uK (show i < 1000000 by omega),qGL (C:=czr) (t:=(g.np,f,(i:Int))) ⟨h.uf,by omega,hp⟩];rfl
 ·rw [a1];refine ⟨a3.set hle,fun u s hs => ?_,fun v hv => ?_⟩
  ·by_cases e:r=i
   ·subst e;rw [zJA fr];exact a4 _ _ (h.rt _ _ hs)
   ·exact Rt.cut (by omega) (fun s hs=>by
     have:=q.uniq hs
     subst this;exact .here fr) u s (a4 _ _ (h.rt _ _ hs))
  ·have hr:setF (roF g.np f (i:Int)) i (r:Int) r=(r:Int):=by
    by_cases e:r=i
    ·subst e; exact yU ..
    ·rw [zY e]; exact fr
   by_cases e:v=i
   ·subst e; exact ⟨r,yU ..,hr,hle⟩
   ·obtain ⟨s,s1,s2,s3⟩:=h.fl v (by omega);refine ⟨s,by rw [zY e]; exact a5 v s s1 s2,?_,s3⟩;rw [zY (show s ≠ i by omega)];exact a5 s s s2 s2
theorem kZG {g:Gr} (hp:g.np≤100) {N:Nat} (hN:g.np < N) {f0:Nat→Int} (h0:UF g.np f0):∃ f,qU (dck2 g) N (0,f0)=some (0,(g.np:Int),f)∧FI g.np f0 g.np f:=by
 have hi:FI g.np f0 0 f0:=⟨h0,fun _ _ h=>h,fun v hv=>absurd hv (Nat.not_lt_zero v)⟩
 have h1:=jZ (dec:=dck2 g) (nx:=fun (i:Nat) (s:Nat→Int)=>setF (roF g.np s (i:Int)) i (roR g.np s (i:Int))) (Q:=FI g.np f0) (out:=fun s=>((g.np:Int),s)) (c:=g.np) (fun i s hi hq=>(qHY hp hi hq).1) (fun i s hi hq=>(qHY hp hi hq).2) (fun s _=>by
  dsimp only [dck2];rw [vYY (by omega)]; rfl) g.np 0 N f0 (by omega) hN hi
 exact ⟨_,h1,jG (Q:=FI g.np f0) (c:=g.np) (fun i s hi hq=>(qHY hp hi hq).2) g.np 0 f0 (by omega) hi⟩
theorem Ljn.lt {g:Gr} {m:Int} (hw:wfB g=true) {i:Nat} (_:i≤g.ne) {u v:Nat} (h:Ljn g m i u v) (hu:u < g.np):v < g.np:=by
 cases h with
 | refl=>exact hu
 | step _ hj =>
  obtain ⟨e,h1,_,_,h4⟩:=hj;obtain ⟨e1,e2,e3,_,_⟩:=jU hw (show e < g.ne by omega);rcases h4 with ⟨h4,h5⟩ | ⟨h4,h5⟩ <;> omega
theorem yHA {g:Gr} {m:Int} (hw:wfB g=true) {u v:Nat} (hu:u < g.np):Ljn g m g.ne u v ↔ ∃ c p,WkG g m u v c p:=by
 constructor
 ·intro h;induction h with
  | refl=>exact ⟨0,1,Wk.nil⟩
  | @step v w c hl hj ih =>
   obtain ⟨c0,p,hk⟩:=ih;obtain ⟨l,l1,l2,l3⟩:=((qGC g m).2 v (w:Int) c).2 hj;exact ⟨_,_,Wk.cons hk (hl.lt hw (Nat.le_refl _) hu) l1 l2⟩
 ·rintro ⟨c,p,h⟩
  induction h with
  | nil=>exact .refl _
  | @cons x y l c p hk hx hl hy ih=>exact .step (ih) (((qGC g m).2 x (y:Int) _).1 ⟨l,hl,hy,rfl⟩)
theorem jGQ {g:Gr} {m:Int} (hw:wfB g=true) (hp:g.np≤100) (hn:g.ne≤500):∃ f0 f1 f2:Nat→Int,(yQG NN g (0,(fun _=>0))=true∧qJV NN g (0,(fun _=>0))=(0,(g.np:Int),f0))∧(yQV NN g m (0,f0)=true∧qVQ NN g m (0,f0)=(0,(g.ne:Int),f1))∧(yQW NN g (0,f1)=true∧zKW NN g (0,f1)=(0,(g.np:Int),f2))∧∀ u v,u < g.np→v < g.np→(f2 u=f2 v ↔ ∃ c p,WkG g m u v c p):=by
 obtain ⟨f0,q0,z0⟩:=kZA hp (show g.np < NN + 10 by rw [qYK]; omega) (fun _=>0);have hK0:KI g m 0 f0:=⟨fun v hv=>⟨v,z0 v hv,Nat.le_refl _⟩,fun u r hu hr=>by
  have:=hr.uniq (.here (z0 u hu))
  subst this;exact .refl _,fun e he=>absurd he (Nat.not_lt_zero e)⟩
 obtain ⟨f1,q1,hK⟩:=kZH hw hp hn (show g.ne < NN + 10 by rw [qYK]; omega) hK0;obtain ⟨f2,q2,hF⟩:=kZG hp (show g.np < NN + 10 by rw [qYK]; omega) hK.uf;refine ⟨f0,f1,f2,⟨by unfold yQG; rw [q0]; rfl,by unfold qJV; rw [q0]; rfl⟩,⟨by unfold yQV; rw [q1]; rfl,by unfold qVQ; rw [q1]; rfl⟩,⟨by unfold yQW; rw [q2]; rfl,by unfold zKW; rw [q2]; rfl⟩,fun u v hu hv => ?_⟩;rw [← yHA hw hu];have root:∀ u,u < g.np→∃ s:Nat,f2 u=(s:Int)∧Rt f1 u s:=fun u hu=>by
  obtain ⟨s,s1,s2,s3⟩:=hF.fl u hu;obtain ⟨r,hr⟩:=hK.uf.ex u hu;have h1:=hF.rt u r hr;have h2:Rt f2 u s:=by
   by_cases e:s=u
   ·subst e; exact .here s1
   ·exact .up s1 (by omega) (.here s2)
  have:=h1.uniq h2
  subst this;exact ⟨_,s1,hr⟩
 have comp:∀ {v},Ljn g m g.ne u v→∀ s,Rt f1 u s→Rt f1 v s:=fun h=>by
  induction h with
  | refl=>exact fun s h=>h
  | @step v w c hl hj ih =>
   intro s hs;have h1:=ih s hs;obtain ⟨e,e1,e2,_,e4⟩:=hj;obtain ⟨b1,b2,b3,_,_⟩:=jU hw e1;obtain ⟨r,g1,g2⟩:=hK.co e e1 e2;rcases e4 with ⟨e4,e5⟩ | ⟨e4,e5⟩
   ·rw [e4] at g1
    have:=g1.uniq h1
    subst this;rw [e5,toN] at g2; exact g2
   ·rw [e4] at g2
    have:=g2.uniq h1
    subst this;rw [e5,toN] at g1; exact g1
 obtain ⟨s,s1,s2⟩:=root u hu;obtain ⟨t,t1,t2⟩:=root v hv;constructor
 ·intro h;rw [s1,t1] at h;have e:=Int.ofNat_inj.1 h;subst e;exact (hK.so u s hu s2).trans ((hK.so v s hv t2).symm hw (Nat.le_refl _))
 ·intro h
  have:=(comp h s s2).uniq t2
  subst this;rw [s1,t1]
noncomputable def coL (g:Gr) (m:Int):Nat→Int:=(zKW NN g (0,(qVQ NN g m (0,(qJV NN g (0,(fun _=>0))).2.2)).2.2)).2.2
theorem yUW {g:Gr} (m:Int) (hw:wfB g=true) (hp:g.np≤100) (hn:g.ne≤500) {u v:Nat} (hu:u < g.np) (hv:v < g.np):coL g m u=coL g m v ↔ ∃ c p,WkG g m u v c p:=by
 obtain ⟨f0,f1,f2,⟨_,h0⟩,⟨_,h1⟩,⟨_,h2⟩,h⟩:=jGQ (m:=m) hw hp hn;unfold coL;rw [h0,h1,h2];exact h u v hu hv
noncomputable def yVC (N:Nat) (g:Gr) (m:Int):List (List Nat × yK):=[([0,1,0,1,1,1],sumF (fun t:(Int × (Nat→Int))=>(hk0 N g m t.1 t.2)) (fun σ=>(slI σ 19,rgI σ 16 0)) (fun t K=>(bif yQG N g t then kxk0 N g m K (qJV N g t) else none))),([0,1,0,1,1,1,1,1],sumF (fun t:(Int × (Nat→Int))=>(hk1 N g m t.1 t.2)) (fun σ=>(slI σ 31,rgI σ 16 0)) (fun t K=>(bif yQV N g m t then kxk1 N g m K (qVQ N g m t) else none))),([0,1,0,1,1,1,1,1,1],sumF (fun t:(Int × (Nat→Int))=>(hk2 N g m t.1 t.2)) (fun σ=>(slI σ 63,rgI σ 16 0)) (fun t K=>(bif yQW N g t then kxk2 N g m K (zKW N g t) else none)))]
set_option maxRecDepth 100000 in
theorem jHH (N:Nat) (g:Gr) (m:Int):qQK Tf (ork0 N g m) (qY (yVC N g m)) (N + 10) 47 [.a (gP g),.n .i64 m] =
 (bif (decide (0≤(g.np:Int))) then (bif (decide ((g.np:Int)≤(g.np:Int))) then (bif (decide ((g.np:Int)≤1000000)) then (bif (gSt (hk0 N g m 0 (fun _=>0)) (hk0 N g m 0 (fun _=>0))) then (bif (yQG N g (0,(fun _=>0))) then (bif (Nat.beq (qJV N g (0,(fun _=>0))).1 0) then (bif (gSt (hk1 N g m 0 (fun v=>((qJV N g (0,(fun _=>0))).2.2 v))) (hk1 N g m 0 (fun v=>((qJV N g (0,(fun _=>0))).2.2 v)))) then (bif (yQV N g m (0,(fun v=>((qJV N g (0,(fun _=>0))).2.2 v)))) then (bif (Nat.beq (qVQ N g m (0,(fun v=>((qJV N g (0,(fun _=>0))).2.2 v)))).1 0) then (bif (gSt (hk2 N g m 0 (fun v=>((qVQ N g m (0,(fun v=>((qJV N g (0,(fun _=>0))).2.2 v)))).2.2 v))) (hk2 N g m 0 (fun v=>((qVQ N g m (0,(fun v=>((qJV N g (0,(fun _=>0))).2.2 v)))).2.2 v)))) then (bif (yQW N g (0,(fun v=>((qVQ N g m (0,(fun v=>((qJV N g (0,(fun _=>0))).2.2 v)))).2.2 v)))) then (bif (Nat.beq (zKW N g (0,(fun v=>((qVQ N g m (0,(fun v=>((qJV N g (0,(fun _=>0))).2.2 v)))).2.2 v)))).1 0) then some (.v (.lf g.np (fun v=>[.n .i64 ((zKW N g (0,(fun v=>((qVQ N g m (0,(fun v=>((qJV N g (0,(fun _=>0))).2.2 v)))).2.2 v)))).2.2 v)])),[])
 else none)
 else none)
 else none)
 else none)
 else none)
 else none)
 else none)
 else none)
 else none)
 else none)
 else none)
 else none):=by kernel_rfl
theorem jZZ (N:Nat) (g:Gr) (m:Int) (hN:N=NN) (hw:wfB g=true) (hp:g.np≤100) (hn:g.ne≤500):yY Try.prog 47 [.a (gP g),.n .i64 m] (.v (.lf g.np (fQ (coL g m)))):=by
 refine qG (N:=(N + 10)) (LO:=qY (yVC N g m)) yV yX (yG (l:=[(60,o_he),(61,o_rm)]) (m:=[(59,o_zr)]) ⟨kQG,kQQ,trivial⟩ ⟨yWU,trivial⟩) (fun p S hp => ?_) ?_
 ·refine qW (L:=qQ Tf 47) (l:=(yVC N g m)) (show AllP _ (yVC N g m) from ⟨?_,?_,?_,trivial⟩) p S hp
  ·dsimp only;refine yZ (T:=Tf) (o:=(ork0 N g m)) (f:=47) (LO:=qY []) (p:=[0,1,0,1,1,1]) jQ ?_;intro t K r hr;obtain ⟨hg,hr⟩:=qZ hr
   skip
   exact (lwk0 K N g m t hg).trans hr
  ·dsimp only;refine yZ (T:=Tf) (o:=(ork0 N g m)) (f:=47) (LO:=qY []) (p:=[0,1,0,1,1,1,1,1]) jQ ?_;intro t K r hr;obtain ⟨hg,hr⟩:=qZ hr
   skip
   exact (lwk1 K N g m t hg).trans hr
  ·dsimp only;refine yZ (T:=Tf) (o:=(ork0 N g m)) (f:=47) (LO:=qY []) (p:=[0,1,0,1,1,1,1,1,1]) jQ ?_;intro t K r hr;obtain ⟨hg,hr⟩:=qZ hr
   skip
   exact (lwk2 K N g m t hg).trans hr
 ·refine (jHH N g m).trans ?_;subst hN;obtain ⟨f0,f1,f2,⟨a0,b0⟩,⟨a1,b1⟩,⟨a2,b2⟩,_⟩:=jGQ (m:=m) hw hp hn;unfold coL;rw [vYJ (show (0:Int)≤(g.np:Int) by omega),vYJ (show (g.np:Int)≤(g.np:Int) by omega),vYJ (show (g.np:Int)≤1000000 by omega),b0,b1,b2];simp only [yQ,a0,b0,a1,b1,a2,b2,vYQ,Nat.beq_refl];rfl
def cco:Gr × Int→Prop:=fun t=>match t with | (g,_)=>wfB g=true∧g.np≤100∧g.ne≤500
def eco:Gr × Int→List PV:=fun t=>match t with | (g,m)=>[.a (gP g),.n .i64 m]
noncomputable def rco:Gr × Int→Ret:=fun t=>match t with | (g,m)=>.v (.lf g.np (fQ (coL g m)))
def dco:List PV→Gr × Int:=fun ps=>match ps with
 | [.a [.lf np pt,.lf ne ed],.n _ m]=>(⟨np,pt,ne,unFE ed⟩,m)
 | _=>(⟨0,fun _=>[],0,fun _=>unE []⟩,0)
noncomputable def o_co:List PV→Option (Bool × Ret):=o_fm dco cco eco rco
theorem kQE:qQY Try.prog 47 o_co:=qQF fun t h=>by
 obtain ⟨g,m⟩:=t;exact jZZ NN g m rfl h.1 h.2.1 h.2.2
end Go.Proofs.Ytglkkhpdbfacfaa.Cn
namespace Go.Proofs.Ytglkkhpdbfacfaa.Co
open Go.Rx Rt Go.Sx Go.RowKit Ba Bb Bc Bd Be Bf Bi Bj Bk Bl Bh Bm Bn Bo Bp Bq Br Bs Bt Bu Bv Bw Bx By Bz Cb Cm Cn
def bQ (s:Nat→Bool):Nat→List PV:=fun v=>[.b (s v)]
def unBQ (f:Nat→List PV):Nat→Bool:=fun i=>match f i with
 | [.b x]=>x
 | _=>false
noncomputable def ors1 (N:Nat) (g:Gr) (a b:Int):OrS:=orS [(41,o_hp),(47,o_co)] []
noncomputable def hs1 (N:Nat) (g:Gr) (a b:Int) (i:Int) (f:Nat→Bool):St:=⟨[(1,.v (.n .i64 a)),(6,.p 6 0),(7,.p 7 0),(8,.v (.lf g.np (fun v=>[.n .i64 ((coL g 2) v)]))),(31,.v (.n .i64 (g.np:Int))),(32,.v (.n .i64 i))],[(6,.blk [.o 29]),(7,.blk [.v (.b false)]),(29,.reg 4 1 (.fo g.np (bQ f)))]⟩
set_option maxRecDepth 100000 in
theorem rds1 (G:St→Option (Ret × Mem)) (K:Cont) (N:Nat) (g:Gr) (a b:Int) (i:Int) (f:Nat→Bool):zH (N + 10) (cxS Tf (ors1 N g a b) (N + 10) 25 (ntmF Tf 25)) (evX Tf (ors1 N g a b) (N + 10) 25 (ntmF Tf 25)) (qY []) (qQ Tf 25 [0,1,0,1,1,1,1,1,1]) [0,1,0,1,1,1,1,1,1] (Tf.hint 25 (qJ (qQ Tf 25 [0,1,0,1,1,1,1,1,1]))) K G (hs1 N g a b i f) =
 (bif (decide (i < (g.np:Int))) then (bif (inB i g.np) then (bif (inB a g.np) then (bif (decide (((coL g 2) (i).toNat)=((coL g 2) (a).toNat))) then (bif (inB i g.np) then (G (hs1 N g a b (vYX .i64 (i + 1)) (fun v=>(bif (Nat.beq v (i).toNat) then true else (f v)))))
 else none)
 else (bif (inB i g.np) then (G (hs1 N g a b (vYX .i64 (i + 1)) (fun v=>(bif (Nat.beq v (i).toNat) then false else (f v)))))
 else none))
 else none)
 else none)
 else (K (.exit 0) ⟨[(6,.p 6 0),(7,.p 7 0)],[(6,.blk [.o 29]),(7,.blk [.v (.b false)]),(29,.reg 4 1 (.fo g.np (bQ f)))]⟩)):=by kernel_rfl
noncomputable def dcs1 (g:Gr) (a:Int):(Int × (Nat→Bool))→(Int × (Nat→Bool)) ⊕ (Nat × Int × (Nat→Bool)):=fun t=>match t with | (i,f)=>(bif (decide (i < (g.np:Int))) then (bif (inB i g.np) then (bif (inB a g.np) then (bif (decide (((coL g 2) (i).toNat)=((coL g 2) (a).toNat))) then (.inl ((vYX .i64 (i + 1)),(fun v=>(bif (Nat.beq v (i).toNat) then true else (f v))))) else (.inl ((vYX .i64 (i + 1)),(fun v=>(bif (Nat.beq v (i).toNat) then false else (f v)))))) else (.inr (1,(i,f)))) else (.inr (1,(i,f)))) else (.inr (0,(i,f))))
noncomputable def kxs1 (N:Nat) (g:Gr) (a b:Int) (K:Cont) (w9:Nat × Int × (Nat→Bool)):Option (Ret × Mem):=bif Nat.beq w9.1 0 then (K (.exit 0) ⟨[(6,.p 6 0),(7,.p 7 0)],[(6,.blk [.o 29]),(7,.blk [.v (.b false)]),(29,.reg 4 1 (.fo g.np (bQ w9.2.2)))]⟩) else none
theorem wls1 (K:Cont) (N:Nat) (g:Gr) (a b:Int):∀ n9 (t:(Int × (Nat→Bool))),LFX (N + 10) (cxS Tf (ors1 N g a b) (N + 10) 25 (ntmF Tf 25)) (evX Tf (ors1 N g a b) (N + 10) 25 (ntmF Tf 25)) (qY []) (qQ Tf 25 [0,1,0,1,1,1,1,1,1]) [0,1,0,1,1,1,1,1,1] (Tf.hint 25 (qJ (qQ Tf 25 [0,1,0,1,1,1,1,1,1]))) K n9 (hs1 N g a b t.1 t.2)=(qU (dcs1 g a) n9 t).bind (kxs1 N g a b K):=fun n9 t=>by
 refine kG (L:=LFX (N + 10) (cxS Tf (ors1 N g a b) (N + 10) 25 (ntmF Tf 25)) (evX Tf (ors1 N g a b) (N + 10) 25 (ntmF Tf 25)) (qY []) (qQ Tf 25 [0,1,0,1,1,1,1,1,1]) [0,1,0,1,1,1,1,1,1] (Tf.hint 25 (qJ (qQ Tf 25 [0,1,0,1,1,1,1,1,1]))) K) (stp:=zH (N + 10) (cxS Tf (ors1 N g a b) (N + 10) 25 (ntmF Tf 25)) (evX Tf (ors1 N g a b) (N + 10) 25 (ntmF Tf 25)) (qY []) (qQ Tf 25 [0,1,0,1,1,1,1,1,1]) [0,1,0,1,1,1,1,1,1] (Tf.hint 25 (qJ (qQ Tf 25 [0,1,0,1,1,1,1,1,1]))) K) (fun _ _=>rfl) (fun _=>rfl) (fun t=>hs1 N g a b t.1 t.2) (fun _=>True) (dcs1 g a) (kxs1 N g a b K) (fun G t _ => ?_) (fun _ _ _ _=>trivial) n9 t trivial;obtain ⟨i,f⟩:=t;refine (rds1 G K N g a b i f).trans ?_;dsimp only [dcs1];cases (decide (i < (g.np:Int)))
 ·rfl
 ·cases (inB i g.np)
  ·rfl
  ·cases (inB a g.np)
   ·rfl
   ·cases (decide (((coL g 2) (i).toNat)=((coL g 2) (a).toNat)))
    ·rfl
    ·rfl
noncomputable def yQK (N:Nat) (g:Gr) (a:Int) (t:(Int × (Nat→Bool))):Bool:=(qU (dcs1 g a) (N + 10) t).isSome
noncomputable def qHV (N:Nat) (g:Gr) (a:Int) (t:(Int × (Nat→Bool))):Nat × Int × (Nat→Bool):=(qU (dcs1 g a) (N + 10) t).getD (99,t)
theorem lws1 (K:Cont) (N:Nat) (g:Gr) (a b:Int) (t:(Int × (Nat→Bool))) (hg:yQK N g a t=true):LFX (N + 10) (cxS Tf (ors1 N g a b) (N + 10) 25 (ntmF Tf 25)) (evX Tf (ors1 N g a b) (N + 10) 25 (ntmF Tf 25)) (qY []) (qQ Tf 25 [0,1,0,1,1,1,1,1,1]) [0,1,0,1,1,1,1,1,1] (Tf.hint 25 (qJ (qQ Tf 25 [0,1,0,1,1,1,1,1,1]))) K (N + 10) (hs1 N g a b t.1 t.2)=kxs1 N g a b K (qHV N g a t):=by
 refine (wls1 K N g a b (N + 10) t).trans ?_;unfold yQK at hg;unfold qHV;cases h:qU (dcs1 g a) (N + 10) t with
 | none=>rw [h] at hg; cases hg
 | some y=>rfl
noncomputable def hr1 (N:Nat) (g:Gr) (a b:Int) (i:Int) (rn:Nat) (f:Nat→Bool):St:=⟨[(8,.v (.lf g.np (fun v=>[.n .i64 ((lbT g a 2).2.1 v),.n .i64 ((lbT g a 2).2.2 v)]))),(9,.o 39),(10,.v (.n .i64 i))],[(39,.reg 4 1 (.fo rn (bQ f)))]⟩
noncomputable def ore1 (g:Gr) (a b:Int) (n:Nat) (_:Nat→Bool):OrS:=orS [(41,o_hp)] []
noncomputable def he1 (g:Gr) (a b:Int) (n:Nat) (sd:Nat→Bool) (i:Int):St:=⟨[(3,.v (.lf n (bQ sd))),(8,.p 8 0),(39,.v (.lf g.ne (fE g.ed))),(40,.v (.n .i64 (g.ne:Int))),(41,.v (.n .i64 i))],[(8,.blk [.v (.b false)])]⟩
set_option maxRecDepth 100000 in
theorem rde1 (G:St→Option (Ret × Mem)) (K:Cont) (g:Gr) (a b:Int) (n:Nat) (sd:Nat→Bool) (i:Int):zH (g.ne + 10) (cxS Tf (ore1 g a b n sd) (g.ne + 10) 27 (ntmF Tf 27)) (evX Tf (ore1 g a b n sd) (g.ne + 10) 27 (ntmF Tf 27)) (qY []) (qQ Tf 27 [0,1,0,1,1,1]) [0,1,0,1,1,1] (Tf.hint 27 (qJ (qQ Tf 27 [0,1,0,1,1,1]))) K G (he1 g a b n sd i) =
 (bif (decide (i < (g.ne:Int))) then (bif (inB i g.ne) then (bif (!decide ((g.ed (i).toNat).s=2)) then (bif (inB (g.ed (i).toNat).u n) then (bif (sd ((g.ed (i).toNat).u).toNat) then (bif (inB (g.ed (i).toNat).v n) then (bif (sd ((g.ed (i).toNat).v).toNat) then (G (he1 g a b n sd (vYX .i64 (i + 1))))
 else (K .ret ⟨[(8,.p 8 0)],[(8,.blk [.v (.b false)])]⟩))
 else none)
 else (bif (inB (g.ed (i).toNat).v n) then (bif (sd ((g.ed (i).toNat).v).toNat) then (K .ret ⟨[(8,.p 8 0)],[(8,.blk [.v (.b false)])]⟩)
 else (G (he1 g a b n sd (vYX .i64 (i + 1)))))
 else none))
 else none)
 else (G (he1 g a b n sd (vYX .i64 (i + 1)))))
 else none)
 else (K (.exit 0) ⟨[(8,.p 8 0)],[(8,.blk [.v (.b false)])]⟩)):=by kernel_rfl
noncomputable def he2 (g:Gr) (a b:Int) (n:Nat) (sd:Nat→Bool) (i:Int):St:=⟨[(3,.v (.lf n (bQ sd))),(4,.p 4 0),(9,.v (.n .i64 i))],[(4,.blk [.v (.lf g.np g.pt),.v (.lf g.ne (fE g.ed))])]⟩
def seE (g:Gr) (sd:Nat→Bool) (i:Nat):Bool:=decide ((g.ed i).s=2) || (sd (g.ed i).u.toNat == sd (g.ed i).v.toNat)
theorem lpe1 (K:Cont) (g:Gr) (a b:Int) (n:Nat) (sd:Nat→Bool) (hw:wfB g=true) (hN:n=g.np) (_:g.ne≤500):LFX (g.ne + 10) (cxS Tf (ore1 g a b n sd) (g.ne + 10) 27 (ntmF Tf 27)) (evX Tf (ore1 g a b n sd) (g.ne + 10) 27 (ntmF Tf 27)) (qY []) (qQ Tf 27 [0,1,0,1,1,1]) [0,1,0,1,1,1] (Tf.hint 27 (qJ (qQ Tf 27 [0,1,0,1,1,1]))) K (g.ne + 10) (he1 g a b n sd 0)=bif (allN (fun i:Nat=>seE g sd i) g.ne 0) then (K (.exit 0) ⟨[(8,.p 8 0)],[(8,.blk [.v (.b false)])]⟩) else (K .ret ⟨[(8,.p 8 0)],[(8,.blk [.v (.b false)])]⟩):=by
 refine (zQK (L:=LFX (g.ne + 10) (cxS Tf (ore1 g a b n sd) (g.ne + 10) 27 (ntmF Tf 27)) (evX Tf (ore1 g a b n sd) (g.ne + 10) 27 (ntmF Tf 27)) (qY []) (qQ Tf 27 [0,1,0,1,1,1]) [0,1,0,1,1,1] (Tf.hint 27 (qJ (qQ Tf 27 [0,1,0,1,1,1]))) K) (stp:=zH (g.ne + 10) (cxS Tf (ore1 g a b n sd) (g.ne + 10) 27 (ntmF Tf 27)) (evX Tf (ore1 g a b n sd) (g.ne + 10) 27 (ntmF Tf 27)) (qY []) (qQ Tf 27 [0,1,0,1,1,1]) [0,1,0,1,1,1] (Tf.hint 27 (qJ (qQ Tf 27 [0,1,0,1,1,1]))) K) (fun _ _=>rfl) (fun (i:Nat) (_:Unit)=>he1 g a b n sd (i:Int)) (fun _ _=>True) (fun (i:Nat) _=>seE g sd i) (fun _ _=>()) (c:=g.ne) (fun _=>(K (.exit 0) ⟨[(8,.p 8 0)],[(8,.blk [.v (.b false)])]⟩)) (fun i _=>(K .ret ⟨[(8,.p 8 0)],[(8,.blk [.v (.b false)])]⟩)) (fun G i f hi _ => ?_) (fun _ _ _ _ _=>trivial) (fun G f _ => ?_) g.ne 0 (g.ne + 10) () (by omega) (by omega) trivial).trans ((qYQ _ _ _ _ _).trans (qYZ _ _ _ _ _))
 ·refine (rde1 G K g a b n sd i).trans ?_;rw [vYJ (show (i:Int) < (g.ne:Int) by omega),uK (by omega),zU (show i < g.ne by omega)];subst hN;simp only [toN,vYQ,vYZ,seE,kZE hw hi];cases decide ((g.ed i).s=2) <;> cases sd (g.ed i).u.toNat <;> cases sd (g.ed i).v.toNat <;> rfl
 ·refine (rde1 G K g a b n sd g.ne).trans ?_;rw [vYY (show ¬ (g.ne:Int) < (g.ne:Int) by omega)];rfl
def csB (g:Gr) (a b:Int) (n:Nat) (sd:Nat→Bool):Bool:=(wfB g && (isP g a && isP g b)) && (decide ((n:Int)=(g.np:Int)) && (sd a.toNat && (!sd b.toNat && allN (fun i:Nat=>seE g sd i) g.ne 0)))
noncomputable def yVB (g:Gr) (a b:Int) (n:Nat) (sd:Nat→Bool):List (List Nat × yK):=[([0,1,0,1,1,1],sumF (fun _:Unit=>(he1 g a b n sd 0)) (fun _=>()) (fun _ K=>(bif (okC g n) then (bif (allN (fun i:Nat=>seE g sd i) g.ne 0) then (K (.exit 0) ⟨[(8,.p 8 0)],[(8,.blk [.v (.b false)])]⟩) else (K .ret ⟨[(8,.p 8 0)],[(8,.blk [.v (.b false)])]⟩)) else none)))]
set_option maxRecDepth 100000 in
theorem jHG (g:Gr) (a b:Int) (n:Nat) (sd:Nat→Bool):qQK Tf (ore1 g a b n sd) (qY (yVB g a b n sd)) (g.ne + 10) 27 [.a (gP g),.n .i64 a,.n .i64 b,.lf n (bQ sd)] =
 (bif (gF1 chp ehp (g,a,b)) then (bif (wfB g && (isP g a && isP g b)) then (bif (!decide ((n:Int)=(g.np:Int))) then some (.v (.b false),[])
 else (bif (inB a n) then (bif (sd (a).toNat) then (bif (inB b n) then (bif (sd (b).toNat) then some (.v (.b false),[])
 else (bif (gSt (he1 g a b n sd 0) (he1 g a b n sd 0)) then (bif (okC g n) then (bif (allN (fun i:Nat=>seE g sd i) g.ne 0) then some (.v (.b true),[])
 else some (.v (.b false),[]))
 else none)
 else none))
 else none)
 else some (.v (.b false),[]))
 else none))
 else some (.v (.b false),[]))
 else none):=by kernel_rfl
theorem jZQ (g:Gr) (a b:Int) (n:Nat) (sd:Nat→Bool) (hp:g.np≤100) (hn:g.ne≤500):yY Try.prog 27 [.a (gP g),.n .i64 a,.n .i64 b,.lf n (bQ sd)] (.v (.b (csB g a b n sd))):=by
 refine qG (N:=(g.ne + 10)) (LO:=qY (yVB g a b n sd)) yV yX (yG (l:=[(41,o_hp)]) (m:=[]) ⟨jWY,trivial⟩ trivial) (fun p S hp => ?_) ?_
 ·refine qW (L:=qQ Tf 27) (l:=(yVB g a b n sd)) (show AllP _ (yVB g a b n sd) from ⟨?_,trivial⟩) p S hp
  ·dsimp only;refine yZ (T:=Tf) (o:=(ore1 g a b n sd)) (f:=27) (LO:=qY []) (p:=[0,1,0,1,1,1]) jQ ?_;intro t K r hr;obtain ⟨hg,hr⟩:=qZ hr;obtain ⟨hw,hN,hn⟩:=jWC hg;exact (lpe1 K g a b n sd hw hN hn).trans hr
 ·refine (jHG g a b n sd).trans ?_;unfold csB;simp only [kW (C:=chp) (t:=(g,a,b)) ⟨hp,hn⟩,vYQ];cases hq:wfB g && (isP g a && isP g b) with
  | false=>rfl
  | true =>
   simp only [vQJ] at hq;obtain ⟨hw,ha,hb⟩:=hq;by_cases h1:(n:Int)=(g.np:Int)
   ·obtain rfl:n=g.np:=by omega
    simp only [decide_true,Bool.not_true,vYQ,vYZ,vZW,yQ,qGE ha,qGE hb,kQL hw hn];cases sd a.toNat <;> cases sd b.toNat <;> cases allN (fun i:Nat=>seE g sd i) g.ne 0 <;> rfl
   ·rw [vYY h1]; rfl
def zHV (f:Nat→Bool) (i:Nat) (x:Bool):Nat→Bool:=fun v=>bif Nat.beq v i then x else f v
theorem jZJ (f:Nat→Bool) (i:Nat) (x:Bool):zHV f i x i=x:=by unfold zHV; rw [Nat.beq_refl]; rfl
theorem yXV {f:Nat→Bool} {i v:Nat} {x:Bool} (h:v ≠ i):zHV f i x v=f v:=by
 have hb:Nat.beq v i=false:=by
  cases hb:Nat.beq v i with
  | false=>rfl
  | true=>exact absurd (vQU hb) h
 unfold zHV; rw [hb]; rfl
theorem jWI {g:Gr} {a:Int} (ha:isP g a=true) (_:g.np≤100) {N:Nat} (hN:g.np < N) (f0:Nat→Bool):∃ f:Nat→Bool,qU (dcs1 g a) N (0,f0)=some (0,(g.np:Int),f)∧∀ v,v < g.np→f v=decide (coL g 2 v=coL g 2 a.toNat):=by
 have h1:=jZ (dec:=dcs1 g a) (nx:=fun (i:Nat) (s:Nat→Bool)=>zHV s i (decide (coL g 2 i=coL g 2 a.toNat))) (Q:=fun _ _=>True) (out:=fun s=>((g.np:Int),s)) (c:=g.np) (fun i s hi _=>by
  dsimp only [dcs1];simp only [vYJ (show (i:Int) < (g.np:Int) by omega),zU hi,uK (show i < 1000000 by omega),qGE ha,toN,vYQ];cases decide (coL g 2 i=coL g 2 a.toNat) <;> rfl) (fun _ _ _ _=>trivial) (fun s _=>by
  dsimp only [dcs1];rw [vYY (by omega)]; rfl) g.np 0 N f0 (by omega) hN trivial
 have h2:=jG (Q:=fun (i:Nat) (s:Nat→Bool)=>∀ v,v < i→s v=decide (coL g 2 v=coL g 2 a.toNat)) (c:=g.np) (nx:=fun (i:Nat) (s:Nat→Bool)=>zHV s i (decide (coL g 2 i=coL g 2 a.toNat))) (fun i s hi hq=>fun v hv=>by
  by_cases e:v=i
  ·subst e; rw [jZJ]
  ·rw [yXV e]; exact hq v (by omega)) g.np 0 f0 (by omega) (fun v hv=>absurd hv (Nat.not_lt_zero v))
 exact ⟨_,h1,h2⟩
noncomputable def sepB (g:Gr) (a b:Int):Bool:=(wfB g && (isP g a && isP g b)) && !decide (coL g 2 a.toNat=coL g 2 b.toNat)
noncomputable def sidF (g:Gr) (a:Int):Nat→Bool:=fun v=>decide (coL g 2 v=coL g 2 a.toNat)
theorem Same.bq {n:Nat} {f f':Nat→Bool} (h:∀ v,v < n→f v=f' v):Same (.lf n (bQ f)) (.lf n (bQ f')):=fun _ _ _ hr=>zXD (rows:=(List.range n).map (bQ f)) (List.map_congr_left fun v hv=>by unfold bQ; rw [h v (List.mem_range.1 hv)]) (zXE rfl hr)
noncomputable def yVK (N:Nat) (g:Gr) (a b:Int):List (List Nat × yK):=[([0,1,0,1,1,1,1,1,1],sumF (fun t:(Int × (Nat→Bool))=>(hs1 N g a b t.1 t.2)) (fun σ=>(slI σ 32,rgB σ 29 0)) (fun t K=>(bif yQK N g a t then kxs1 N g a b K (qHV N g a t) else none)))]
set_option maxRecDepth 100000 in
theorem jHZ (N:Nat) (g:Gr) (a b:Int):qQK Tf (ors1 N g a b) (qY (yVK N g a b)) (N + 10) 25 [.a (gP g),.n .i64 a,.n .i64 b] =
 (bif (gF1 chp ehp (g,a,b)) then (bif (wfB g && (isP g a && isP g b)) then (bif (gF1 cco eco (g,2)) then (bif (inB a g.np) then (bif (inB b g.np) then (bif (decide (((coL g 2) (a).toNat)=((coL g 2) (b).toNat))) then some (.v (.t [.l [],.b false]),[])
 else (bif (decide (0≤(g.np:Int))) then (bif (decide ((g.np:Int)≤(g.np:Int))) then (bif (decide ((g.np:Int)≤1000000)) then (bif (gSt (hs1 N g a b 0 (fun _=>false)) (hs1 N g a b 0 (fun _=>false))) then (bif (yQK N g a (0,(fun _=>false))) then (bif (Nat.beq (qHV N g a (0,(fun _=>false))).1 0) then some (.v (.t [.lf g.np (fun v=>[.b ((qHV N g a (0,(fun _=>false))).2.2 v)]),.b true]),[])
 else none)
 else none)
 else none)
 else none)
 else none)
 else none))
 else none)
 else none)
 else none)
 else some (.v (.t [.l [],.b false]),[]))
 else none):=by kernel_rfl
theorem jQA (N:Nat) (g:Gr) (a b:Int) (hN:N=NN) (hp:g.np≤100) (hn:g.ne≤500):yY Try.prog 25 [.a (gP g),.n .i64 a,.n .i64 b] (bif sepB g a b then .v (.t [.lf g.np (bQ (qHV NN g a (0,(fun _=>false))).2.2),.b true]) else .v (.t [.l [],.b false])):=by
 refine qG (N:=(N + 10)) (LO:=qY (yVK N g a b)) yV yX (yG (l:=[(41,o_hp),(47,o_co)]) (m:=[]) ⟨jWY,kQE,trivial⟩ trivial) (fun p S hp => ?_) ?_
 ·refine qW (L:=qQ Tf 25) (l:=(yVK N g a b)) (show AllP _ (yVK N g a b) from ⟨?_,trivial⟩) p S hp
  ·dsimp only;refine yZ (T:=Tf) (o:=(ors1 N g a b)) (f:=25) (LO:=qY []) (p:=[0,1,0,1,1,1,1,1,1]) jQ ?_;intro t K r hr;obtain ⟨hg,hr⟩:=qZ hr
   skip
   exact (lws1 K N g a b t hg).trans hr
 ·refine (jHZ N g a b).trans ?_;subst hN;unfold sepB;simp only [kW (C:=chp) (t:=(g,a,b)) ⟨hp,hn⟩,vYQ];cases hq:wfB g && (isP g a && isP g b) with
  | false=>rfl
  | true =>
   simp only [vQJ] at hq;obtain ⟨hw,ha,hb⟩:=hq;simp only [kW (C:=cco) (t:=(g,2)) ⟨hw,hp,hn⟩,qGE ha,qGE hb,vYQ,vZW];cases decide (coL g 2 a.toNat=coL g 2 b.toNat) with
   | true=>rfl
   | false =>
    obtain ⟨f,h1,_⟩:=jWI ha hp (show g.np < NN + 10 by rw [qYK]; omega) (fun _=>false);have o1:yQK NN g a (0,(fun _=>false))=true:=by unfold yQK; rw [h1]; rfl
    have o2:qHV NN g a (0,(fun _=>false))=(0,(g.np:Int),f):=by unfold qHV; rw [h1]; rfl
    simp only [vYJ (show (0:Int)≤(g.np:Int) by omega),vYJ (show (g.np:Int)≤(g.np:Int) by omega),vYJ (show (g.np:Int)≤1000000 by omega),yQ,o1,o2,vYQ,vYZ,Bool.not_false,Nat.beq_refl];rfl
theorem jKD (g:Gr) (a b:Int) (hp:g.np≤100) (hn:g.ne≤500):yY Try.prog 25 [.a (gP g),.n .i64 a,.n .i64 b] (.v (.t [.lf (bif sepB g a b then g.np else 0) (bQ (sidF g a)),.b (sepB g a b)])):=by
 have h:=jQA NN g a b rfl hp hn;cases hf:sepB g a b with
 | false=>rw [hf] at h; exact qQE (Same.t (xs:=[_,_]) (ys:=[_,_]) ⟨Same.lf rfl,Same.refl _,trivial⟩) h
 | true =>
  rw [hf] at h;unfold sepB at hf;simp only [vQJ] at hf;obtain ⟨f,h1,h2⟩:=jWI hf.1.2.1 hp (show g.np < NN + 10 by rw [qYK]; omega) (fun _=>false);have o2:qHV NN g a (0,(fun _=>false))=(0,(g.np:Int),f):=by unfold qHV; rw [h1]; rfl
  rw [o2] at h;exact qQE (Same.t (xs:=[_,_]) (ys:=[_,_]) ⟨Same.bq h2,Same.refl _,trivial⟩) h
end Go.Proofs.Ytglkkhpdbfacfaa.Co
namespace Go.Proofs.Ytglkkhpdbfacfaa.Cp
open Go.Rx Rt Go.Sx Go.RowKit Ba Bb Bc Bd Be Bf Bi Bj Bk Bl Bh Bm Bn Bo Bp Bq Br Bs Bt Bu Bv Bw Bx By Bz Ca Cb Cc Cd Cm Cn Co Ce
noncomputable def hsb (n m:Nat) (sa sb:Nat→Bool) (i:Int):St:=⟨[(0,.v (.lf n (bQ sa))),(1,.v (.lf m (bQ sb))),(5,.v (.n .i64 i))],[]⟩
noncomputable def seN (g:Gr) (a b:Int):Nat:=bif sepB g a b then g.np else 0
def cse:Gr × Int × Int→Prop:=fun t=>match t with | (g,_,_)=>g.np≤100∧g.ne≤500
def ese:Gr × Int × Int→List PV:=fun t=>match t with | (g,a,b)=>[.a (gP g),.n .i64 a,.n .i64 b]
noncomputable def rse:Gr × Int × Int→Ret:=fun t=>match t with | (g,a,b)=>.v (.t [.lf (seN g a b) (bQ (sidF g a)),.b (sepB g a b)])
def dse:List PV→Gr × Int × Int:=fun ps=>match ps with
 | [.a [.lf np pt,.lf ne ed],.n _ a,.n _ b]=>(⟨np,pt,ne,unFE ed⟩,a,b)
 | _=>(⟨0,fun _=>[],0,fun _=>unE []⟩,0,0)
noncomputable def o_se:List PV→Option (Bool × Ret):=o_fm dse cse ese rse
theorem jHL:qQY Try.prog 25 o_se:=qQF fun t h=>by
 obtain ⟨g,a,b⟩:=t;exact jKD g a b h.1 h.2
def ccse:Gr × Int × Int × Nat × (Nat→Bool)→Prop:=fun t=>match t with | (g,_,_,_,_)=>g.np≤100∧g.ne≤500
def ecse:Gr × Int × Int × Nat × (Nat→Bool)→List PV:=fun t=>match t with | (g,a,b,n,sd)=>[.a (gP g),.n .i64 a,.n .i64 b,.lf n (bQ sd)]
noncomputable def rcse:Gr × Int × Int × Nat × (Nat→Bool)→Ret:=fun t=>match t with | (g,a,b,n,sd)=>.v (.b (csB g a b n sd))
def dcse:List PV→Gr × Int × Int × Nat × (Nat→Bool):=fun ps=>match ps with
 | [.a [.lf np pt,.lf ne ed],.n _ a,.n _ b,.lf n f]=>(⟨np,pt,ne,unFE ed⟩,a,b,n,unBQ f)
 | _=>(⟨0,fun _=>[],0,fun _=>unE []⟩,0,0,0,fun _=>false)
noncomputable def jJW:List PV→Option (Bool × Ret):=o_fm dcse ccse ecse rcse
theorem jWW:qQY Try.prog 27 jJW:=qQF fun t h=>by
 obtain ⟨g,a,b,n,sd⟩:=t;exact jZQ g a b n sd h.1 h.2
end Go.Proofs.Ytglkkhpdbfacfaa.Cp

/- Part 13 of the texts behind the last one: rules and contracts. No condition. -/
import Derived.Test.YtglkkhpdbfacfaaBX12
open Bool renaming and_eq_true → vQJ, and_self → vZQ, true_and → vZW
open Nat renaming eq_of_beq_eq_true → vQU
open Go.IntKind renaming wrap → vYX
namespace Go.Proofs.Ytglkkhpdbfacfaa.Cn
open Go.Rx Rt Go.Sx Go.RowKit Ba Bb Bc Bd Be Bf Bi Bj Bk Bl Bh Bm Bn Bo Bp Bq Br Bs Bt Bu Bv Bw Bx By Bz Cm
inductive Ljn (g:Gr) (m:Int) (i:Nat):Nat→Nat→Prop
 | refl (u:Nat):Ljn g m i u u
 | step {u v w:Nat} {c:Int} (h:Ljn g m i u v) (hj:Jn g m i v (w:Int) c):Ljn g m i u w
theorem Ljn.trans {g:Gr} {m:Int} {i u v w:Nat} (h:Ljn g m i u v) (h':Ljn g m i v w):Ljn g m i u w:=by
 induction h' with
 | refl=>exact h
 | step _ hj ih=>exact .step ih hj
theorem Jn.swap {g:Gr} {m:Int} (hw:wfB g=true) {i:Nat} (_:i≤g.ne) {v w:Nat} {c:Int} (h:Jn g m i v (w:Int) c):Jn g m i w (v:Int) c:=by
 obtain ⟨e,h1,h2,h3,h4⟩:=h;obtain ⟨e1,e2,e3,_,_⟩:=uV hw (show e < g.ne by omega);refine ⟨e,h1,h2,h3,?_⟩;rcases h4 with ⟨h4,h5⟩ | ⟨h4,h5⟩
 ·exact .inr ⟨by omega,by omega⟩
 ·exact .inl ⟨by omega,by omega⟩
theorem Ljn.symm {g:Gr} {m:Int} (hw:wfB g=true) {i:Nat} (hi:i≤g.ne) {u v:Nat} (h:Ljn g m i u v):Ljn g m i v u:=by
 induction h with
 | refl=>exact .refl _
 | step _ hj ih=>exact (Ljn.step (.refl _) (Jn.swap hw hi hj)).trans ih
theorem Jn.up {g:Gr} {m:Int} {i j:Nat} (_:i≤j) {v:Nat} {w c:Int} (h:Jn g m i v w c):Jn g m j v w c:=by
 obtain ⟨e,h1,h2⟩:=h;exact ⟨e,by omega,h2⟩
theorem Ljn.up {g:Gr} {m:Int} {i j:Nat} (hi:i≤j) {u v:Nat} (h:Ljn g m i u v):Ljn g m j u v:=by
 induction h with
 | refl=>exact .refl _
 | step _ hj ih=>exact .step ih (Jn.up hi hj)
theorem zJG {f:Nat→Int} {x:Nat} {z:Int} (h:f x=z):setF f x z=f:=funext fun v=>by
 by_cases e:v=x
 ·subst e; rw [yW,h]
 ·rw [zK e]
theorem Rt.union {f:Nat→Int} {lo hi:Nat} (hl:f lo=(lo:Int)) (_:f hi=(hi:Int)) (_:lo≤hi) {u s:Nat} (h:Rt f u s):Rt (setF f hi (lo:Int)) u (if s=hi then lo else s):=by
 by_cases e:lo=hi
 ·subst e;rw [zJG hl];by_cases e2:s=lo
  ·rw [if_pos e2,← e2]; exact h
  ·rw [if_neg e2]; exact h
 ·induction h with
  | @here u h =>
   by_cases e2:u=hi
   ·subst e2;rw [if_pos rfl];exact .up (yW ..) (by omega) (.here (by rw [zK e]; exact hl))
   ·rw [if_neg e2];exact .here (by rw [zK e2]; exact h)
  | @up u w r h hw _ ih =>
   have hne:u ≠ hi:=fun e3=>by subst e3; omega
   exact .up (by rw [zK hne]; exact h) hw ih
structure KI (g:Gr) (m:Int) (i:Nat) (f:Nat→Int):Prop where
 uf:UF g.np f
 so:∀ u r,u < g.np→Rt f u r→Ljn g m i u r
 co:∀ e,e < i→usB (g.ed e).s m=true→∃ r,Rt f (g.ed e).u.toNat r∧Rt f (g.ed e).v.toNat r
theorem KI.skip {g:Gr} {m:Int} {i:Nat} {f:Nat→Int} (h:KI g m i f) (hu:usB (g.ed i).s m=false):KI g m (i + 1) f:=⟨h.uf,fun u r hu hr=>(h.so u r hu hr).up (by omega),fun e he hs=>by
 by_cases e2:e=i
 ·subst e2; rw [hu] at hs; cases hs
 ·exact h.co e (by omega) hs⟩
theorem KI.union {g:Gr} {m:Int} {i:Nat} {f f2:Nat→Int} (h:KI g m i f) (hw:wfB g=true) (hi:i < g.ne) (hus:usB (g.ed i).s m=true) (huf:UF g.np f2) (hrt:∀ u s,Rt f u s→Rt f2 u s) {r1 r2:Nat} (h1:Rt f (g.ed i).u.toNat r1) (h2:Rt f (g.ed i).v.toNat r2):KI g m (i + 1) (setF f2 (max r1 r2) ((min r1 r2:Nat):Int)):=by
 obtain ⟨e1,e2,e3,_,_⟩:=uV hw hi;have q1:=hrt _ _ h1;have q2:=hrt _ _ h2;have f1:=q1.fix;have f2':=q2.fix;have hlo:f2 (min r1 r2)=((min r1 r2:Nat):Int):=by
  by_cases e:r1≤r2
  ·rw [Nat.min_eq_left e]; exact f1
  ·rw [Nat.min_eq_right (by omega)]; exact f2'
 have hhi:f2 (max r1 r2)=((max r1 r2:Nat):Int):=by
  by_cases e:r1≤r2
  ·rw [Nat.max_eq_right e]; exact f2'
  ·rw [Nat.max_eq_left (by omega)]; exact f1
 have un:∀ {u s},Rt f2 u s→Rt (setF f2 (max r1 r2) ((min r1 r2:Nat):Int)) u (if s=max r1 r2 then min r1 r2 else s):=fun h=>Rt.union hlo hhi (by omega) h
 have hle:=q1.le;have hle2:=q2.le;have uf3:UF g.np (setF f2 (max r1 r2) ((min r1 r2:Nat):Int)):=huf.set (by omega);have ab:Ljn g m (i + 1) (g.ed i).u.toNat (g.ed i).v.toNat:=.step (.refl _) (c:=(g.ed i).c) ⟨i,by omega,hus,rfl,.inl ⟨rfl,by omega⟩⟩;have l1:=(h.so _ _ (by omega) h1).up (show i≤i + 1 by omega);have l2:=(h.so _ _ (by omega) h2).up (show i≤i + 1 by omega);have r12:Ljn g m (i + 1) r1 r2:=(l1.symm hw (by omega)).trans (ab.trans l2);have hl:Ljn g m (i + 1) (max r1 r2) (min r1 r2):=by
  by_cases e:r1≤r2
  ·rw [Nat.max_eq_right e,Nat.min_eq_left e]; exact r12.symm hw (by omega)
  ·rw [Nat.max_eq_left (by omega),Nat.min_eq_right (by omega)]; exact r12
 refine ⟨uf3,fun u r hu hr => ?_,fun e he hs => ?_⟩
 ·obtain ⟨r0,hr0⟩:=h.uf.ex u hu;have l0:=(h.so u r0 hu hr0).up (show i≤i + 1 by omega)
  have:=(un (hrt _ _ hr0)).uniq hr
  subst this;by_cases e:r0=max r1 r2
  ·rw [if_pos e];rw [e] at l0;exact l0.trans hl
  ·rw [if_neg e]; exact l0
 ·by_cases e2:e=i
  ·subst e2;refine ⟨min r1 r2,?_,?_⟩
   ·have:=un q1
    rw [show (if r1=max r1 r2 then min r1 r2 else r1)=min r1 r2 from by split <;> omega] at this;exact this
   ·have:=un q2
    rw [show (if r2=max r1 r2 then min r1 r2 else r2)=min r1 r2 from by split <;> omega] at this;exact this
  ·obtain ⟨r,g1,g2⟩:=h.co e (by omega) hs;exact ⟨_,un (hrt _ _ g1),un (hrt _ _ g2)⟩
noncomputable def uniF (g:Gr) (f:Nat→Int) (i:Nat):Nat→Int:=setF (roF g.np (roF g.np f (g.ed i).u) (g.ed i).v) (max (roR g.np f (g.ed i).u) (roR g.np (roF g.np f (g.ed i).u) (g.ed i).v)).toNat (min (roR g.np f (g.ed i).u) (roR g.np (roF g.np f (g.ed i).u) (g.ed i).v))
noncomputable def nxK (g:Gr) (m:Int) (i:Nat) (f:Nat→Int):Nat→Int:=bif usB (g.ed i).s m then uniF g f i else f
theorem qHQ {g:Gr} {m:Int} (hw:wfB g=true) (hp:g.np≤100) (_:g.ne≤500) {i:Nat} (hi:i < g.ne) {f:Nat→Int} (h:KI g m i f):dck1 g m ((i:Int),f)=.inl (((i + 1:Nat):Int),nxK g m i f)∧KI g m (i + 1) (nxK g m i f):=by
 obtain ⟨e1,e2,e3,e4,_⟩:=uV hw hi;have pu:isP g (g.ed i).u=true:=by unfold isP; rw [vYJ e1,vYJ (by omega)]; rfl
 have pv:isP g (g.ed i).v=true:=by unfold isP; rw [vYJ (show 0≤(g.ed i).v by omega),vYJ (by omega)]; rfl
 unfold nxK;cases hu:usB (g.ed i).s m with
 | false =>
  refine ⟨?_,h.skip hu⟩;dsimp only [dck1];simp only [toN,vYJ (show (i:Int) < (g.ne:Int) by omega),zU hi,uK (show i < 1000000 by omega),jJ (C:=che) (t:=(g,g.ed i)) trivial,jJ (C:=crm) (t:=((g.ed i).s,m)) trivial,pu,pv,hu,vZQ,vYQ,vYZ]
 | true =>
  obtain ⟨a,ha⟩:∃ a:Nat,(g.ed i).u=(a:Int):=⟨(g.ed i).u.toNat,by omega⟩
  obtain ⟨b,hb⟩:∃ b:Nat,(g.ed i).v=(b:Int):=⟨(g.ed i).v.toNat,by omega⟩
  obtain ⟨_,_,r1,a1,a2,a3,a4,_⟩:=zZU (x:=a) h.uf (by omega) hp;obtain ⟨_,_,r2,b1,b2,b3,b4,_⟩:=zZU (x:=b) a3 (by omega) hp;obtain ⟨r3,hr3⟩:=h.uf.ex b (by omega);have e5:=(a4 _ _ hr3).uniq b2;subst e5;have hmx:(max (r1:Int) (r3:Int)).toNat=max r1 r3:=by omega
  have hmn:min (r1:Int) (r3:Int)=((min r1 r3:Nat):Int):=by omega
  have hle:=a2.le;have hle2:=hr3.le;constructor
  ·dsimp only [dck1];simp only [toN,vYJ (show (i:Int) < (g.ne:Int) by omega),zU hi,uK (show i < 1000000 by omega),jJ (C:=che) (t:=(g,g.ed i)) trivial,jJ (C:=crm) (t:=((g.ed i).s,m)) trivial,pu,pv,hu,vZQ,vYQ];rw [qGE (C:=czr) (t:=(g.np,f,(g.ed i).u)) ⟨h.uf,by omega,hp⟩,qGE (C:=czr) (t:=(g.np,roF g.np f (g.ed i).u,(g.ed i).v)) ⟨by rw [ha]; exact a3,by omega,hp⟩];have hm:inB (max (roR g.np f (g.ed i).u) (roR g.np (roF g.np f (g.ed i).u) (g.ed i).v)) g.np=true:=by
    rw [ha,hb,a1,b1];unfold inB;rw [vYJ (by omega),vYJ (by omega)]; rfl
   rw [hm];rfl
  ·unfold uniF;rw [vYQ,ha,hb,a1,b1,hmx,hmn];exact h.union hw hi hu b3 (fun u s h=>b4 u s (a4 u s h)) (by rw [ha]; exact a2) (by rw [hb]; exact hr3)
theorem yGU {g:Gr} {m:Int} {f:Nat→Int}:dck1 g m ((g.ne:Int),f)=.inr (0,(g.ne:Int),f):=by
 dsimp only [dck1];rw [vYY (by omega)]; rfl
theorem kZY {g:Gr} {m:Int} (hw:wfB g=true) (hp:g.np≤100) (hn:g.ne≤500) {N:Nat} (hN:g.ne < N) {f0:Nat→Int} (h0:KI g m 0 f0):∃ f,qW (dck1 g m) N (0,f0)=some (0,(g.ne:Int),f)∧KI g m g.ne f:=by
 have h1:=kZ (dec:=dck1 g m) (nx:=nxK g m) (Q:=KI g m) (out:=fun s=>((g.ne:Int),s)) (c:=g.ne) (fun i s hi hq=>(qHQ hw hp hn hi hq).1) (fun i s hi hq=>(qHQ hw hp hn hi hq).2) (fun s _=>yGU) g.ne 0 N f0 (by omega) hN h0;exact ⟨_,h1,uX (Q:=KI g m) (c:=g.ne) (nx:=nxK g m) (fun i s hi hq=>(qHQ hw hp hn hi hq).2) g.ne 0 f0 (by omega) h0⟩
theorem kZJ {g:Gr} (_:g.np≤100) {N:Nat} (hN:g.np < N) (f0:Nat→Int):∃ f:Nat→Int,qW (dck0 g) N (0,f0)=some (0,(g.np:Int),f)∧∀ v,v < g.np→f v=(v:Int):=by
 have h1:=kZ (dec:=dck0 g) (nx:=fun (i:Nat) (s:Nat→Int)=>setF s i (i:Int)) (Q:=fun _ _=>True) (out:=fun s=>((g.np:Int),s)) (c:=g.np) (fun i s hi _=>by
  dsimp only [dck0];rw [vYJ (show (i:Int) < (g.np:Int) by omega),zU hi,uK (show i < 1000000 by omega)]
  rfl) (fun _ _ _ _=>trivial) (fun s _=>by
  dsimp only [dck0];rw [vYY (by omega)]; rfl) g.np 0 N f0 (by omega) hN trivial
 have h2:=uX (Q:=fun (i:Nat) (s:Nat→Int)=>∀ v,v < i→s v=(v:Int)) (c:=g.np) (nx:=fun (i:Nat) (s:Nat→Int)=>setF s i (i:Int)) (fun i s hi hq=>fun v hv=>by
  by_cases e:v=i
  ·subst e; rw [yW]
  ·rw [zK e]; exact hq v (by omega)) g.np 0 f0 (by omega) (fun v hv=>absurd hv (Nat.not_lt_zero v))
 exact ⟨_,h1,h2⟩
structure FI (n:Nat) (f0:Nat→Int) (i:Nat) (f:Nat→Int):Prop where
 uf:UF n f
 rt:∀ u s,Rt f0 u s→Rt f u s
 fl:∀ v,v < i→∃ s:Nat,f v=(s:Int)∧f s=(s:Int)∧s≤v
theorem qGL {g:Gr} (hp:g.np≤100) {f0:Nat→Int} {i:Nat} (hi:i < g.np) {f:Nat→Int} (h:FI g.np f0 i f):dck2 g ((i:Int),f)=.inl (((i + 1:Nat):Int),setF (roF g.np f (i:Int)) i (roR g.np f (i:Int)))∧FI g.np f0 (i + 1) (setF (roF g.np f (i:Int)) i (roR g.np f (i:Int))):=by
 obtain ⟨_,_,r,a1,a2,a3,a4,a5⟩:=zZU (x:=i) h.uf hi hp;have q:=a4 _ _ a2;have hle:=a2.le;have fr:=q.fix;constructor
 ·dsimp only [dck2];rw [vYJ (show (i:Int) < (g.np:Int) by omega),zU hi,uK (show i < 1000000 by omega),qGE (C:=czr) (t:=(g.np,f,(i:Int))) ⟨h.uf,by omega,hp⟩];rfl
 ·rw [a1];refine ⟨a3.set hle,fun u s hs => ?_,fun v hv => ?_⟩
  ·by_cases e:r=i
   ·subst e;rw [zJG fr];exact a4 _ _ (h.rt _ _ hs)
   ·exact Rt.cut (by omega) (fun s hs=>by
     have:=q.uniq hs
     subst this;exact .here fr) u s (a4 _ _ (h.rt _ _ hs))
  ·have hr:setF (roF g.np f (i:Int)) i (r:Int) r=(r:Int):=by
    by_cases e:r=i
    ·subst e; exact yW ..
    ·rw [zK e]; exact fr
   by_cases e:v=i
   ·subst e; exact ⟨r,yW ..,hr,hle⟩
   ·obtain ⟨s,s1,s2,s3⟩:=h.fl v (by omega);refine ⟨s,by rw [zK e]; exact a5 v s s1 s2,?_,s3⟩;rw [zK (show s ≠ i by omega)];exact a5 s s s2 s2
theorem kZZ {g:Gr} (hp:g.np≤100) {N:Nat} (hN:g.np < N) {f0:Nat→Int} (h0:UF g.np f0):∃ f,qW (dck2 g) N (0,f0)=some (0,(g.np:Int),f)∧FI g.np f0 g.np f:=by
 have hi:FI g.np f0 0 f0:=⟨h0,fun _ _ h=>h,fun v hv=>absurd hv (Nat.not_lt_zero v)⟩
 have h1:=kZ (dec:=dck2 g) (nx:=fun (i:Nat) (s:Nat→Int)=>setF (roF g.np s (i:Int)) i (roR g.np s (i:Int))) (Q:=FI g.np f0) (out:=fun s=>((g.np:Int),s)) (c:=g.np) (fun i s hi hq=>(qGL hp hi hq).1) (fun i s hi hq=>(qGL hp hi hq).2) (fun s _=>by
  dsimp only [dck2];rw [vYY (by omega)]; rfl) g.np 0 N f0 (by omega) hN hi
 exact ⟨_,h1,uX (Q:=FI g.np f0) (c:=g.np) (fun i s hi hq=>(qGL hp hi hq).2) g.np 0 f0 (by omega) hi⟩
theorem Ljn.lt {g:Gr} {m:Int} (hw:wfB g=true) {i:Nat} (_:i≤g.ne) {u v:Nat} (h:Ljn g m i u v) (hu:u < g.np):v < g.np:=by
 cases h with
 | refl=>exact hu
 | step _ hj =>
  obtain ⟨e,h1,_,_,h4⟩:=hj;obtain ⟨e1,e2,e3,_,_⟩:=uV hw (show e < g.ne by omega);rcases h4 with ⟨h4,h5⟩ | ⟨h4,h5⟩ <;> omega
theorem jWZ {g:Gr} {m:Int} (hw:wfB g=true) {u v:Nat} (hu:u < g.np):Ljn g m g.ne u v ↔ ∃ c p,WkG g m u v c p:=by
 constructor
 ·intro h;induction h with
  | refl=>exact ⟨0,1,Wk.nil⟩
  | @step v w c hl hj ih =>
   obtain ⟨c0,p,hk⟩:=ih;obtain ⟨l,l1,l2,l3⟩:=((qGH g m).2 v (w:Int) c).2 hj;exact ⟨_,_,Wk.cons hk (hl.lt hw (Nat.le_refl _) hu) l1 l2⟩
 ·rintro ⟨c,p,h⟩
  induction h with
  | nil=>exact .refl _
  | @cons x y l c p hk hx hl hy ih=>exact .step (ih) (((qGH g m).2 x (y:Int) _).1 ⟨l,hl,hy,rfl⟩)
theorem jVW {g:Gr} {m:Int} (hw:wfB g=true) (hp:g.np≤100) (hn:g.ne≤500):∃ f0 f1 f2:Nat→Int,(yQK NN g (0,(fun _=>0))=true∧qJX NN g (0,(fun _=>0))=(0,(g.np:Int),f0))∧(yQJ NN g m (0,f0)=true∧qWC NN g m (0,f0)=(0,(g.ne:Int),f1))∧(yQY NN g (0,f1)=true∧zKU NN g (0,f1)=(0,(g.np:Int),f2))∧∀ u v,u < g.np→v < g.np→(f2 u=f2 v ↔ ∃ c p,WkG g m u v c p):=by
 obtain ⟨f0,q0,z0⟩:=kZJ hp (show g.np < NN + 10 by rw [qJV]; omega) (fun _=>0);have hK0:KI g m 0 f0:=⟨fun v hv=>⟨v,z0 v hv,Nat.le_refl _⟩,fun u r hu hr=>by
  have:=hr.uniq (.here (z0 u hu))
  subst this;exact .refl _,fun e he=>absurd he (Nat.not_lt_zero e)⟩
 obtain ⟨f1,q1,hK⟩:=kZY hw hp hn (show g.ne < NN + 10 by rw [qJV]; omega) hK0;obtain ⟨f2,q2,hF⟩:=kZZ hp (show g.np < NN + 10 by rw [qJV]; omega) hK.uf;refine ⟨f0,f1,f2,⟨by unfold yQK; rw [q0]; rfl,by unfold qJX; rw [q0]; rfl⟩,⟨by unfold yQJ; rw [q1]; rfl,by unfold qWC; rw [q1]; rfl⟩,⟨by unfold yQY; rw [q2]; rfl,by unfold zKU; rw [q2]; rfl⟩,fun u v hu hv => ?_⟩;rw [← jWZ hw hu];have root:∀ u,u < g.np→∃ s:Nat,f2 u=(s:Int)∧Rt f1 u s:=fun u hu=>by
  obtain ⟨s,s1,s2,s3⟩:=hF.fl u hu;obtain ⟨r,hr⟩:=hK.uf.ex u hu;have h1:=hF.rt u r hr;have h2:Rt f2 u s:=by
   by_cases e:s=u
   ·subst e; exact .here s1
   ·exact .up s1 (by omega) (.here s2)
  have:=h1.uniq h2
  subst this;exact ⟨_,s1,hr⟩
 have comp:∀ {v},Ljn g m g.ne u v→∀ s,Rt f1 u s→Rt f1 v s:=fun h=>by
  induction h with
  | refl=>exact fun s h=>h
  | @step v w c hl hj ih =>
   intro s hs;have h1:=ih s hs;obtain ⟨e,e1,e2,_,e4⟩:=hj;obtain ⟨b1,b2,b3,_,_⟩:=uV hw e1;obtain ⟨r,g1,g2⟩:=hK.co e e1 e2;rcases e4 with ⟨e4,e5⟩ | ⟨e4,e5⟩
   ·rw [e4] at g1
    have:=g1.uniq h1
    subst this;rw [e5,toN] at g2; exact g2
   ·rw [e4] at g2
    have:=g2.uniq h1
    subst this;rw [e5,toN] at g1; exact g1
 obtain ⟨s,s1,s2⟩:=root u hu;obtain ⟨t,t1,t2⟩:=root v hv;constructor
 ·intro h;rw [s1,t1] at h;have e:=Int.ofNat_inj.1 h;subst e;exact (hK.so u s hu s2).trans ((hK.so v s hv t2).symm hw (Nat.le_refl _))
 ·intro h
  have:=(comp h s s2).uniq t2
  subst this;rw [s1,t1]
noncomputable def coL (g:Gr) (m:Int):Nat→Int:=(zKU NN g (0,(qWC NN g m (0,(qJX NN g (0,(fun _=>0))).2.2)).2.2)).2.2
theorem jJH {g:Gr} (m:Int) (hw:wfB g=true) (hp:g.np≤100) (hn:g.ne≤500) {u v:Nat} (hu:u < g.np) (hv:v < g.np):coL g m u=coL g m v ↔ ∃ c p,WkG g m u v c p:=by
 obtain ⟨f0,f1,f2,⟨_,h0⟩,⟨_,h1⟩,⟨_,h2⟩,h⟩:=jVW (m:=m) hw hp hn;unfold coL;rw [h0,h1,h2];exact h u v hu hv
noncomputable def yVK (N:Nat) (g:Gr) (m:Int):List (List Nat × zH):=[([0,1,0,1,1,1],sumF (fun t:(Int × (Nat→Int))=>(hk0 N g m t.1 t.2)) (fun σ=>(slI σ 19,rgI σ 16 0)) (fun t K=>(bif yQK N g t then kxk0 N g m K (qJX N g t) else none))),([0,1,0,1,1,1,1,1],sumF (fun t:(Int × (Nat→Int))=>(hk1 N g m t.1 t.2)) (fun σ=>(slI σ 31,rgI σ 16 0)) (fun t K=>(bif yQJ N g m t then kxk1 N g m K (qWC N g m t) else none))),([0,1,0,1,1,1,1,1,1],sumF (fun t:(Int × (Nat→Int))=>(hk2 N g m t.1 t.2)) (fun σ=>(slI σ 63,rgI σ 16 0)) (fun t K=>(bif yQY N g t then kxk2 N g m K (zKU N g t) else none)))]
set_option maxRecDepth 100000 in
theorem jHY (N:Nat) (g:Gr) (m:Int):qQY Tf (ork0 N g m) (qY (yVK N g m)) (N + 10) 47 [.a (gP g),.n .i64 m] =
 (bif (decide (0≤(g.np:Int))) then (bif (decide ((g.np:Int)≤(g.np:Int))) then (bif (decide ((g.np:Int)≤1000000)) then (bif (gSt (hk0 N g m 0 (fun _=>0)) (hk0 N g m 0 (fun _=>0))) then (bif (yQK N g (0,(fun _=>0))) then (bif (Nat.beq (qJX N g (0,(fun _=>0))).1 0) then (bif (gSt (hk1 N g m 0 (fun v=>((qJX N g (0,(fun _=>0))).2.2 v))) (hk1 N g m 0 (fun v=>((qJX N g (0,(fun _=>0))).2.2 v)))) then (bif (yQJ N g m (0,(fun v=>((qJX N g (0,(fun _=>0))).2.2 v)))) then (bif (Nat.beq (qWC N g m (0,(fun v=>((qJX N g (0,(fun _=>0))).2.2 v)))).1 0) then (bif (gSt (hk2 N g m 0 (fun v=>((qWC N g m (0,(fun v=>((qJX N g (0,(fun _=>0))).2.2 v)))).2.2 v))) (hk2 N g m 0 (fun v=>((qWC N g m (0,(fun v=>((qJX N g (0,(fun _=>0))).2.2 v)))).2.2 v)))) then (bif (yQY N g (0,(fun v=>((qWC N g m (0,(fun v=>((qJX N g (0,(fun _=>0))).2.2 v)))).2.2 v)))) then (bif (Nat.beq (zKU N g (0,(fun v=>((qWC N g m (0,(fun v=>((qJX N g (0,(fun _=>0))).2.2 v)))).2.2 v)))).1 0) then some (.v (.lf g.np (fun v=>[.n .i64 ((zKU N g (0,(fun v=>((qWC N g m (0,(fun v=>((qJX N g (0,(fun _=>0))).2.2 v)))).2.2 v)))).2.2 v)])),[])
 else none)
 else none)
 else none)
 else none)
 else none)
 else none)
 else none)
 else none)
 else none)
 else none)
 else none)
 else none):=by kernel_rfl
theorem jQH (N:Nat) (g:Gr) (m:Int) (hN:N=NN) (hw:wfB g=true) (hp:g.np≤100) (hn:g.ne≤500):yZ Try.prog 47 [.a (gP g),.n .i64 m] (.v (.lf g.np (fQ (coL g m)))):=by
 refine qV (N:=(N + 10)) (LO:=qY (yVK N g m)) yX yU (yV (l:=[(60,o_he),(61,o_rm)]) (m:=[(59,o_zr)]) ⟨kQK,jHE,trivial⟩ ⟨yXF,trivial⟩) (fun p S hp => ?_) ?_
 ·refine qX (L:=qQ Tf 47) (l:=(yVK N g m)) (show AllP _ (yVK N g m) from ⟨?_,?_,?_,trivial⟩) p S hp
  ·dsimp only;refine yK (T:=Tf) (o:=(ork0 N g m)) (f:=47) (LO:=qY []) (p:=[0,1,0,1,1,1]) jQ ?_;intro t K r hr;obtain ⟨hg,hr⟩:=qZ hr
   skip
   exact (lwk0 K N g m t hg).trans hr
  ·dsimp only;refine yK (T:=Tf) (o:=(ork0 N g m)) (f:=47) (LO:=qY []) (p:=[0,1,0,1,1,1,1,1]) jQ ?_;intro t K r hr;obtain ⟨hg,hr⟩:=qZ hr
   skip
   exact (lwk1 K N g m t hg).trans hr
  ·dsimp only;refine yK (T:=Tf) (o:=(ork0 N g m)) (f:=47) (LO:=qY []) (p:=[0,1,0,1,1,1,1,1,1]) jQ ?_;intro t K r hr;obtain ⟨hg,hr⟩:=qZ hr
   skip
   exact (lwk2 K N g m t hg).trans hr
 ·refine (jHY N g m).trans ?_;subst hN;obtain ⟨f0,f1,f2,⟨a0,b0⟩,⟨a1,b1⟩,⟨a2,b2⟩,_⟩:=jVW (m:=m) hw hp hn;unfold coL;rw [vYJ (show (0:Int)≤(g.np:Int) by omega),vYJ (show (g.np:Int)≤(g.np:Int) by omega),vYJ (show (g.np:Int)≤1000000 by omega),b0,b1,b2];simp only [yY,a0,b0,a1,b1,a2,b2,vYQ,Nat.beq_refl];rfl
def cco:Gr × Int→Prop:=fun t=>match t with | (g,_)=>wfB g=true∧g.np≤100∧g.ne≤500
def eco:Gr × Int→List PV:=fun t=>match t with | (g,m)=>[.a (gP g),.n .i64 m]
noncomputable def rco:Gr × Int→Ret:=fun t=>match t with | (g,m)=>.v (.lf g.np (fQ (coL g m)))
def dco:List PV→Gr × Int:=fun ps=>match ps with
 | [.a [.lf np pt,.lf ne ed],.n _ m]=>(⟨np,pt,ne,unFE ed⟩,m)
 | _=>(⟨0,fun _=>[],0,fun _=>unE []⟩,0)
noncomputable def o_co:List PV→Option (Bool × Ret):=o_fm dco cco eco rco
theorem kQH:uJ Try.prog 47 o_co:=qQG fun t h=>by
 obtain ⟨g,m⟩:=t;exact jQH NN g m rfl h.1 h.2.1 h.2.2
end Go.Proofs.Ytglkkhpdbfacfaa.Cn
namespace Go.Proofs.Ytglkkhpdbfacfaa.Co
open Go.Rx Rt Go.Sx Go.RowKit Ba Bb Bc Bd Be Bf Bi Bj Bk Bl Bh Bm Bn Bo Bp Bq Br Bs Bt Bu Bv Bw Bx By Bz Cb Cm Cn
def bQ (s:Nat→Bool):Nat→List PV:=fun v=>[.b (s v)]
def unBQ (f:Nat→List PV):Nat→Bool:=fun i=>match f i with
 | [.b x]=>x
 | _=>false
noncomputable def ors1 (N:Nat) (g:Gr) (a b:Int):OrS:=orS [(41,o_hp),(47,o_co)] []
noncomputable def orr1 (N:Nat) (g:Gr) (a b:Int):OrS:=orS [(32,o_as),(33,o_lb)] []
noncomputable def hs1 (N:Nat) (g:Gr) (a b:Int) (i:Int) (f:Nat→Bool):St:=⟨[(1,.v (.n .i64 a)),(6,.p 6 0),(7,.p 7 0),(8,.v (.lf g.np (fun v=>[.n .i64 ((coL g 2) v)]))),(31,.v (.n .i64 (g.np:Int))),(32,.v (.n .i64 i))],[(6,.blk [.o 29]),(7,.blk [.v (.b false)]),(29,.reg 4 1 (.fo g.np (bQ f)))]⟩
set_option maxRecDepth 100000 in
theorem rds1 (G:St→Option (Ret × Mem)) (K:Cont) (N:Nat) (g:Gr) (a b:Int) (i:Int) (f:Nat→Bool):yJ (N + 10) (cxS Tf (ors1 N g a b) (N + 10) 25 (ntmF Tf 25)) (evX Tf (ors1 N g a b) (N + 10) 25 (ntmF Tf 25)) (qY []) (qQ Tf 25 [0,1,0,1,1,1,1,1,1]) [0,1,0,1,1,1,1,1,1] (Tf.hint 25 (qJ (qQ Tf 25 [0,1,0,1,1,1,1,1,1]))) K G (hs1 N g a b i f) =
 (bif (decide (i < (g.np:Int))) then (bif (inB i g.np) then (bif (inB a g.np) then (bif (decide (((coL g 2) (i).toNat)=((coL g 2) (a).toNat))) then (bif (inB i g.np) then (G (hs1 N g a b (vYX .i64 (i + 1)) (fun v=>(bif (Nat.beq v (i).toNat) then true else (f v)))))
 else none)
 else (bif (inB i g.np) then (G (hs1 N g a b (vYX .i64 (i + 1)) (fun v=>(bif (Nat.beq v (i).toNat) then false else (f v)))))
 else none))
 else none)
 else none)
 else (K (.exit 0) ⟨[(6,.p 6 0),(7,.p 7 0)],[(6,.blk [.o 29]),(7,.blk [.v (.b false)]),(29,.reg 4 1 (.fo g.np (bQ f)))]⟩)):=by kernel_rfl
noncomputable def dcs1 (g:Gr) (a:Int):(Int × (Nat→Bool))→(Int × (Nat→Bool)) ⊕ (Nat × Int × (Nat→Bool)):=fun t=>match t with | (i,f)=>(bif (decide (i < (g.np:Int))) then (bif (inB i g.np) then (bif (inB a g.np) then (bif (decide (((coL g 2) (i).toNat)=((coL g 2) (a).toNat))) then (.inl ((vYX .i64 (i + 1)),(fun v=>(bif (Nat.beq v (i).toNat) then true else (f v))))) else (.inl ((vYX .i64 (i + 1)),(fun v=>(bif (Nat.beq v (i).toNat) then false else (f v)))))) else (.inr (1,(i,f)))) else (.inr (1,(i,f)))) else (.inr (0,(i,f))))
noncomputable def kxs1 (N:Nat) (g:Gr) (a b:Int) (K:Cont) (w9:Nat × Int × (Nat→Bool)):Option (Ret × Mem):=bif Nat.beq w9.1 0 then (K (.exit 0) ⟨[(6,.p 6 0),(7,.p 7 0)],[(6,.blk [.o 29]),(7,.blk [.v (.b false)]),(29,.reg 4 1 (.fo g.np (bQ w9.2.2)))]⟩) else none
theorem wls1 (K:Cont) (N:Nat) (g:Gr) (a b:Int):∀ n9 (t:(Int × (Nat→Bool))),LFX (N + 10) (cxS Tf (ors1 N g a b) (N + 10) 25 (ntmF Tf 25)) (evX Tf (ors1 N g a b) (N + 10) 25 (ntmF Tf 25)) (qY []) (qQ Tf 25 [0,1,0,1,1,1,1,1,1]) [0,1,0,1,1,1,1,1,1] (Tf.hint 25 (qJ (qQ Tf 25 [0,1,0,1,1,1,1,1,1]))) K n9 (hs1 N g a b t.1 t.2)=(qW (dcs1 g a) n9 t).bind (kxs1 N g a b K):=fun n9 t=>by
 refine qQX (L:=LFX (N + 10) (cxS Tf (ors1 N g a b) (N + 10) 25 (ntmF Tf 25)) (evX Tf (ors1 N g a b) (N + 10) 25 (ntmF Tf 25)) (qY []) (qQ Tf 25 [0,1,0,1,1,1,1,1,1]) [0,1,0,1,1,1,1,1,1] (Tf.hint 25 (qJ (qQ Tf 25 [0,1,0,1,1,1,1,1,1]))) K) (stp:=yJ (N + 10) (cxS Tf (ors1 N g a b) (N + 10) 25 (ntmF Tf 25)) (evX Tf (ors1 N g a b) (N + 10) 25 (ntmF Tf 25)) (qY []) (qQ Tf 25 [0,1,0,1,1,1,1,1,1]) [0,1,0,1,1,1,1,1,1] (Tf.hint 25 (qJ (qQ Tf 25 [0,1,0,1,1,1,1,1,1]))) K) (fun _ _=>rfl) (fun _=>rfl) (fun t=>hs1 N g a b t.1 t.2) (fun _=>True) (dcs1 g a) (kxs1 N g a b K) (fun G t _ => ?_) (fun _ _ _ _=>trivial) n9 t trivial;obtain ⟨i,f⟩:=t;refine (rds1 G K N g a b i f).trans ?_;dsimp only [dcs1];cases (decide (i < (g.np:Int)))
 ·rfl
 ·cases (inB i g.np)
  ·rfl
  ·cases (inB a g.np)
   ·rfl
   ·cases (decide (((coL g 2) (i).toNat)=((coL g 2) (a).toNat)))
    ·rfl
    ·rfl
noncomputable def zHI (N:Nat) (g:Gr) (a:Int) (t:(Int × (Nat→Bool))):Bool:=(qW (dcs1 g a) (N + 10) t).isSome
noncomputable def qHX (N:Nat) (g:Gr) (a:Int) (t:(Int × (Nat→Bool))):Nat × Int × (Nat→Bool):=(qW (dcs1 g a) (N + 10) t).getD (99,t)
theorem lws1 (K:Cont) (N:Nat) (g:Gr) (a b:Int) (t:(Int × (Nat→Bool))) (hg:zHI N g a t=true):LFX (N + 10) (cxS Tf (ors1 N g a b) (N + 10) 25 (ntmF Tf 25)) (evX Tf (ors1 N g a b) (N + 10) 25 (ntmF Tf 25)) (qY []) (qQ Tf 25 [0,1,0,1,1,1,1,1,1]) [0,1,0,1,1,1,1,1,1] (Tf.hint 25 (qJ (qQ Tf 25 [0,1,0,1,1,1,1,1,1]))) K (N + 10) (hs1 N g a b t.1 t.2)=kxs1 N g a b K (qHX N g a t):=by
 refine (wls1 K N g a b (N + 10) t).trans ?_;unfold zHI at hg;unfold qHX;cases h:qW (dcs1 g a) (N + 10) t with
 | none=>rw [h] at hg; cases hg
 | some y=>rfl
noncomputable def hr1 (N:Nat) (g:Gr) (a b:Int) (i:Int) (rn:Nat) (f:Nat→Bool):St:=⟨[(8,.v (.lf g.np (fun v=>[.n .i64 ((lbT g a 2).2.1 v),.n .i64 ((lbT g a 2).2.2 v)]))),(9,.o 39),(10,.v (.n .i64 i))],[(39,.reg 4 1 (.fo rn (bQ f)))]⟩
set_option maxRecDepth 100000 in
theorem rdr1 (G:St→Option (Ret × Mem)) (K:Cont) (N:Nat) (g:Gr) (a b:Int) (i:Int) (rn:Nat) (f:Nat→Bool):yJ (N + 10) (cxS Tf (orr1 N g a b) (N + 10) 23 (ntmF Tf 23)) (evX Tf (orr1 N g a b) (N + 10) 23 (ntmF Tf 23)) (qY []) (qQ Tf 23 [0,1,0,1,1,1,1,1]) [0,1,0,1,1,1,1,1] (Tf.hint 23 (qJ (qQ Tf 23 [0,1,0,1,1,1,1,1]))) K G (hr1 N g a b i rn f) =
 (bif (decide (i < (g.np:Int))) then (bif (inB i g.np) then (bif (decide (0≤((lbT g a 2).2.1 (i).toNat))) then (bif (decide (rn + 1≤1000000)) then (G (hr1 N g a b (vYX .i64 (i + 1)) (rn + 1) (fun v=>(bif (Nat.beq v rn) then true else (f v)))))
 else none)
 else (bif (decide (rn + 1≤1000000)) then (G (hr1 N g a b (vYX .i64 (i + 1)) (rn + 1) (fun v=>(bif (Nat.beq v rn) then false else (f v)))))
 else none))
 else none)
 else (K (.exit 0) ⟨[(9,.o 39)],[(39,.reg 4 1 (.fo rn (bQ f)))]⟩)):=by kernel_rfl
noncomputable def dcr1 (g:Gr) (a:Int):(Int × Nat × (Nat→Bool))→(Int × Nat × (Nat→Bool)) ⊕ (Nat × Int × Nat × (Nat→Bool)):=fun t=>match t with | (i,rn,f)=>(bif (decide (i < (g.np:Int))) then (bif (inB i g.np) then (bif (decide (0≤((lbT g a 2).2.1 (i).toNat))) then (bif (decide (rn + 1≤1000000)) then (.inl ((vYX .i64 (i + 1)),(rn + 1),(fun v=>(bif (Nat.beq v rn) then true else (f v))))) else (.inr (1,(i,rn,f)))) else (bif (decide (rn + 1≤1000000)) then (.inl ((vYX .i64 (i + 1)),(rn + 1),(fun v=>(bif (Nat.beq v rn) then false else (f v))))) else (.inr (1,(i,rn,f))))) else (.inr (1,(i,rn,f)))) else (.inr (0,(i,rn,f))))
noncomputable def kxr1 (N:Nat) (g:Gr) (a b:Int) (K:Cont) (w9:Nat × Int × Nat × (Nat→Bool)):Option (Ret × Mem):=bif Nat.beq w9.1 0 then (K (.exit 0) ⟨[(9,.o 39)],[(39,.reg 4 1 (.fo w9.2.2.1 (bQ w9.2.2.2)))]⟩) else none
theorem wlr1 (K:Cont) (N:Nat) (g:Gr) (a b:Int):∀ n9 (t:(Int × Nat × (Nat→Bool))),LFX (N + 10) (cxS Tf (orr1 N g a b) (N + 10) 23 (ntmF Tf 23)) (evX Tf (orr1 N g a b) (N + 10) 23 (ntmF Tf 23)) (qY []) (qQ Tf 23 [0,1,0,1,1,1,1,1]) [0,1,0,1,1,1,1,1] (Tf.hint 23 (qJ (qQ Tf 23 [0,1,0,1,1,1,1,1]))) K n9 (hr1 N g a b t.1 t.2.1 t.2.2)=(qW (dcr1 g a) n9 t).bind (kxr1 N g a b K):=fun n9 t=>by
 refine qQX (L:=LFX (N + 10) (cxS Tf (orr1 N g a b) (N + 10) 23 (ntmF Tf 23)) (evX Tf (orr1 N g a b) (N + 10) 23 (ntmF Tf 23)) (qY []) (qQ Tf 23 [0,1,0,1,1,1,1,1]) [0,1,0,1,1,1,1,1] (Tf.hint 23 (qJ (qQ Tf 23 [0,1,0,1,1,1,1,1]))) K) (stp:=yJ (N + 10) (cxS Tf (orr1 N g a b) (N + 10) 23 (ntmF Tf 23)) (evX Tf (orr1 N g a b) (N + 10) 23 (ntmF Tf 23)) (qY []) (qQ Tf 23 [0,1,0,1,1,1,1,1]) [0,1,0,1,1,1,1,1] (Tf.hint 23 (qJ (qQ Tf 23 [0,1,0,1,1,1,1,1]))) K) (fun _ _=>rfl) (fun _=>rfl) (fun t=>hr1 N g a b t.1 t.2.1 t.2.2) (fun _=>True) (dcr1 g a) (kxr1 N g a b K) (fun G t _ => ?_) (fun _ _ _ _=>trivial) n9 t trivial;obtain ⟨i,rn,f⟩:=t;refine (rdr1 G K N g a b i rn f).trans ?_;dsimp only [dcr1];cases (decide (i < (g.np:Int)))
 ·rfl
 ·cases (inB i g.np)
  ·rfl
  ·cases (decide (0≤((lbT g a 2).2.1 (i).toNat)))
   ·cases (decide (rn + 1≤1000000))
    ·rfl
    ·rfl
   ·cases (decide (rn + 1≤1000000))
    ·rfl
    ·rfl
noncomputable def yQQ (N:Nat) (g:Gr) (a:Int) (t:(Int × Nat × (Nat→Bool))):Bool:=(qW (dcr1 g a) (N + 10) t).isSome
noncomputable def qGV (N:Nat) (g:Gr) (a:Int) (t:(Int × Nat × (Nat→Bool))):Nat × Int × Nat × (Nat→Bool):=(qW (dcr1 g a) (N + 10) t).getD (99,t)
theorem lwr1 (K:Cont) (N:Nat) (g:Gr) (a b:Int) (t:(Int × Nat × (Nat→Bool))) (hg:yQQ N g a t=true):LFX (N + 10) (cxS Tf (orr1 N g a b) (N + 10) 23 (ntmF Tf 23)) (evX Tf (orr1 N g a b) (N + 10) 23 (ntmF Tf 23)) (qY []) (qQ Tf 23 [0,1,0,1,1,1,1,1]) [0,1,0,1,1,1,1,1] (Tf.hint 23 (qJ (qQ Tf 23 [0,1,0,1,1,1,1,1]))) K (N + 10) (hr1 N g a b t.1 t.2.1 t.2.2)=kxr1 N g a b K (qGV N g a t):=by
 refine (wlr1 K N g a b (N + 10) t).trans ?_;unfold yQQ at hg;unfold qGV;cases h:qW (dcr1 g a) (N + 10) t with
 | none=>rw [h] at hg; cases hg
 | some y=>rfl
noncomputable def ore1 (g:Gr) (a b:Int) (n:Nat) (_:Nat→Bool):OrS:=orS [(41,o_hp)] []
noncomputable def he1 (g:Gr) (a b:Int) (n:Nat) (sd:Nat→Bool) (i:Int):St:=⟨[(3,.v (.lf n (bQ sd))),(8,.p 8 0),(39,.v (.lf g.ne (fE g.ed))),(40,.v (.n .i64 (g.ne:Int))),(41,.v (.n .i64 i))],[(8,.blk [.v (.b false)])]⟩
set_option maxRecDepth 100000 in
theorem rde1 (G:St→Option (Ret × Mem)) (K:Cont) (g:Gr) (a b:Int) (n:Nat) (sd:Nat→Bool) (i:Int):yJ (g.ne + 10) (cxS Tf (ore1 g a b n sd) (g.ne + 10) 27 (ntmF Tf 27)) (evX Tf (ore1 g a b n sd) (g.ne + 10) 27 (ntmF Tf 27)) (qY []) (qQ Tf 27 [0,1,0,1,1,1]) [0,1,0,1,1,1] (Tf.hint 27 (qJ (qQ Tf 27 [0,1,0,1,1,1]))) K G (he1 g a b n sd i) =
 (bif (decide (i < (g.ne:Int))) then (bif (inB i g.ne) then (bif (!decide ((g.ed (i).toNat).s=2)) then (bif (inB (g.ed (i).toNat).u n) then (bif (sd ((g.ed (i).toNat).u).toNat) then (bif (inB (g.ed (i).toNat).v n) then (bif (sd ((g.ed (i).toNat).v).toNat) then (G (he1 g a b n sd (vYX .i64 (i + 1))))
 else (K .ret ⟨[(8,.p 8 0)],[(8,.blk [.v (.b false)])]⟩))
 else none)
 else (bif (inB (g.ed (i).toNat).v n) then (bif (sd ((g.ed (i).toNat).v).toNat) then (K .ret ⟨[(8,.p 8 0)],[(8,.blk [.v (.b false)])]⟩)
 else (G (he1 g a b n sd (vYX .i64 (i + 1)))))
 else none))
 else none)
 else (G (he1 g a b n sd (vYX .i64 (i + 1)))))
 else none)
 else (K (.exit 0) ⟨[(8,.p 8 0)],[(8,.blk [.v (.b false)])]⟩)):=by kernel_rfl
noncomputable def ore2 (g:Gr) (a b:Int) (n:Nat) (_:Nat→Bool):OrS:=orS [(32,o_as)] []
noncomputable def he2 (g:Gr) (a b:Int) (n:Nat) (sd:Nat→Bool) (i:Int):St:=⟨[(3,.v (.lf n (bQ sd))),(4,.p 4 0),(9,.v (.n .i64 i))],[(4,.blk [.v (.lf g.np g.pt),.v (.lf g.ne (fE g.ed))])]⟩
set_option maxRecDepth 100000 in
theorem rde2 (G:St→Option (Ret × Mem)) (K:Cont) (g:Gr) (a b:Int) (n:Nat) (sd:Nat→Bool) (i:Int):yJ (g.ne + 10) (cxS Tf (ore2 g a b n sd) (g.ne + 10) 45 (ntmF Tf 45)) (evX Tf (ore2 g a b n sd) (g.ne + 10) 45 (ntmF Tf 45)) (qY []) (qQ Tf 45 [0,1,0,1,1]) [0,1,0,1,1] (Tf.hint 45 (qJ (qQ Tf 45 [0,1,0,1,1]))) K G (he2 g a b n sd i) =
 (bif (decide (i < (g.ne:Int))) then (bif (inB i g.ne) then (bif (!decide ((g.ed (i).toNat).s=2)) then (bif (inB (g.ed (i).toNat).u n) then (bif (sd ((g.ed (i).toNat).u).toNat) then (bif (inB (g.ed (i).toNat).v n) then (bif (sd ((g.ed (i).toNat).v).toNat) then (G (he2 g a b n sd (vYX .i64 (i + 1))))
 else (K .ret ⟨[(8,.v (.b false))],[]⟩))
 else none)
 else (bif (inB (g.ed (i).toNat).v n) then (bif (sd ((g.ed (i).toNat).v).toNat) then (K .ret ⟨[(8,.v (.b false))],[]⟩)
 else (G (he2 g a b n sd (vYX .i64 (i + 1)))))
 else none))
 else none)
 else (G (he2 g a b n sd (vYX .i64 (i + 1)))))
 else none)
 else (K (.exit 0) ⟨[],[]⟩)):=by kernel_rfl
def seE (g:Gr) (sd:Nat→Bool) (i:Nat):Bool:=decide ((g.ed i).s=2) || (sd (g.ed i).u.toNat == sd (g.ed i).v.toNat)
theorem lpe1 (K:Cont) (g:Gr) (a b:Int) (n:Nat) (sd:Nat→Bool) (hw:wfB g=true) (hN:n=g.np) (_:g.ne≤500):LFX (g.ne + 10) (cxS Tf (ore1 g a b n sd) (g.ne + 10) 27 (ntmF Tf 27)) (evX Tf (ore1 g a b n sd) (g.ne + 10) 27 (ntmF Tf 27)) (qY []) (qQ Tf 27 [0,1,0,1,1,1]) [0,1,0,1,1,1] (Tf.hint 27 (qJ (qQ Tf 27 [0,1,0,1,1,1]))) K (g.ne + 10) (he1 g a b n sd 0)=bif (allN (fun i:Nat=>seE g sd i) g.ne 0) then (K (.exit 0) ⟨[(8,.p 8 0)],[(8,.blk [.v (.b false)])]⟩) else (K .ret ⟨[(8,.p 8 0)],[(8,.blk [.v (.b false)])]⟩):=by
 refine (qWU (L:=LFX (g.ne + 10) (cxS Tf (ore1 g a b n sd) (g.ne + 10) 27 (ntmF Tf 27)) (evX Tf (ore1 g a b n sd) (g.ne + 10) 27 (ntmF Tf 27)) (qY []) (qQ Tf 27 [0,1,0,1,1,1]) [0,1,0,1,1,1] (Tf.hint 27 (qJ (qQ Tf 27 [0,1,0,1,1,1]))) K) (stp:=yJ (g.ne + 10) (cxS Tf (ore1 g a b n sd) (g.ne + 10) 27 (ntmF Tf 27)) (evX Tf (ore1 g a b n sd) (g.ne + 10) 27 (ntmF Tf 27)) (qY []) (qQ Tf 27 [0,1,0,1,1,1]) [0,1,0,1,1,1] (Tf.hint 27 (qJ (qQ Tf 27 [0,1,0,1,1,1]))) K) (fun _ _=>rfl) (fun (i:Nat) (_:Unit)=>he1 g a b n sd (i:Int)) (fun _ _=>True) (fun (i:Nat) _=>seE g sd i) (fun _ _=>()) (c:=g.ne) (fun _=>(K (.exit 0) ⟨[(8,.p 8 0)],[(8,.blk [.v (.b false)])]⟩)) (fun i _=>(K .ret ⟨[(8,.p 8 0)],[(8,.blk [.v (.b false)])]⟩)) (fun G i f hi _ => ?_) (fun _ _ _ _ _=>trivial) (fun G f _ => ?_) g.ne 0 (g.ne + 10) () (by omega) (by omega) trivial).trans ((qQD _ _ _ _ _).trans (qQH _ _ _ _ _))
 ·refine (rde1 G K g a b n sd i).trans ?_;rw [vYJ (show (i:Int) < (g.ne:Int) by omega),uK (by omega),zU (show i < g.ne by omega)];subst hN;simp only [toN,vYQ,vYZ,seE,jWB hw hi];cases decide ((g.ed i).s=2) <;> cases sd (g.ed i).u.toNat <;> cases sd (g.ed i).v.toNat <;> rfl
 ·refine (rde1 G K g a b n sd g.ne).trans ?_;rw [vYY (show ¬ (g.ne:Int) < (g.ne:Int) by omega)];rfl
theorem lpe2 (K:Cont) (g:Gr) (a b:Int) (n:Nat) (sd:Nat→Bool) (hw:wfB g=true) (hN:n=g.np) (_:g.ne≤500):LFX (g.ne + 10) (cxS Tf (ore2 g a b n sd) (g.ne + 10) 45 (ntmF Tf 45)) (evX Tf (ore2 g a b n sd) (g.ne + 10) 45 (ntmF Tf 45)) (qY []) (qQ Tf 45 [0,1,0,1,1]) [0,1,0,1,1] (Tf.hint 45 (qJ (qQ Tf 45 [0,1,0,1,1]))) K (g.ne + 10) (he2 g a b n sd 0)=bif (allN (fun i:Nat=>seE g sd i) g.ne 0) then (K (.exit 0) ⟨[],[]⟩) else (K .ret ⟨[(8,.v (.b false))],[]⟩):=by
 refine (qWU (L:=LFX (g.ne + 10) (cxS Tf (ore2 g a b n sd) (g.ne + 10) 45 (ntmF Tf 45)) (evX Tf (ore2 g a b n sd) (g.ne + 10) 45 (ntmF Tf 45)) (qY []) (qQ Tf 45 [0,1,0,1,1]) [0,1,0,1,1] (Tf.hint 45 (qJ (qQ Tf 45 [0,1,0,1,1]))) K) (stp:=yJ (g.ne + 10) (cxS Tf (ore2 g a b n sd) (g.ne + 10) 45 (ntmF Tf 45)) (evX Tf (ore2 g a b n sd) (g.ne + 10) 45 (ntmF Tf 45)) (qY []) (qQ Tf 45 [0,1,0,1,1]) [0,1,0,1,1] (Tf.hint 45 (qJ (qQ Tf 45 [0,1,0,1,1]))) K) (fun _ _=>rfl) (fun (i:Nat) (_:Unit)=>he2 g a b n sd (i:Int)) (fun _ _=>True) (fun (i:Nat) _=>seE g sd i) (fun _ _=>()) (c:=g.ne) (fun _=>(K (.exit 0) ⟨[],[]⟩)) (fun i _=>(K .ret ⟨[(8,.v (.b false))],[]⟩)) (fun G i f hi _ => ?_) (fun _ _ _ _ _=>trivial) (fun G f _ => ?_) g.ne 0 (g.ne + 10) () (by omega) (by omega) trivial).trans ((qQD _ _ _ _ _).trans (qQH _ _ _ _ _))
 ·refine (rde2 G K g a b n sd i).trans ?_;rw [vYJ (show (i:Int) < (g.ne:Int) by omega),uK (by omega),zU (show i < g.ne by omega)];subst hN;simp only [toN,vYQ,vYZ,seE,jWB hw hi];cases decide ((g.ed i).s=2) <;> cases sd (g.ed i).u.toNat <;> cases sd (g.ed i).v.toNat <;> rfl
 ·refine (rde2 G K g a b n sd g.ne).trans ?_;rw [vYY (show ¬ (g.ne:Int) < (g.ne:Int) by omega)];rfl
def csB (g:Gr) (a b:Int) (n:Nat) (sd:Nat→Bool):Bool:=(wfB g && (isP g a && isP g b)) && (decide ((n:Int)=(g.np:Int)) && (sd a.toNat && (!sd b.toNat && allN (fun i:Nat=>seE g sd i) g.ne 0)))
noncomputable def yVJ (g:Gr) (a b:Int) (n:Nat) (sd:Nat→Bool):List (List Nat × zH):=[([0,1,0,1,1,1],sumF (fun _:Unit=>(he1 g a b n sd 0)) (fun _=>()) (fun _ K=>(bif (okC g n) then (bif (allN (fun i:Nat=>seE g sd i) g.ne 0) then (K (.exit 0) ⟨[(8,.p 8 0)],[(8,.blk [.v (.b false)])]⟩) else (K .ret ⟨[(8,.p 8 0)],[(8,.blk [.v (.b false)])]⟩)) else none)))]
set_option maxRecDepth 100000 in
theorem jHZ (g:Gr) (a b:Int) (n:Nat) (sd:Nat→Bool):qQY Tf (ore1 g a b n sd) (qY (yVJ g a b n sd)) (g.ne + 10) 27 [.a (gP g),.n .i64 a,.n .i64 b,.lf n (bQ sd)] =
 (bif (gF1 chp ehp (g,a,b)) then (bif (wfB g && (isP g a && isP g b)) then (bif (!decide ((n:Int)=(g.np:Int))) then some (.v (.b false),[])
 else (bif (inB a n) then (bif (sd (a).toNat) then (bif (inB b n) then (bif (sd (b).toNat) then some (.v (.b false),[])
 else (bif (gSt (he1 g a b n sd 0) (he1 g a b n sd 0)) then (bif (okC g n) then (bif (allN (fun i:Nat=>seE g sd i) g.ne 0) then some (.v (.b true),[])
 else some (.v (.b false),[]))
 else none)
 else none))
 else none)
 else some (.v (.b false),[]))
 else none))
 else some (.v (.b false),[]))
 else none):=by kernel_rfl
theorem jQG (g:Gr) (a b:Int) (n:Nat) (sd:Nat→Bool) (hp:g.np≤100) (hn:g.ne≤500):yZ Try.prog 27 [.a (gP g),.n .i64 a,.n .i64 b,.lf n (bQ sd)] (.v (.b (csB g a b n sd))):=by
 refine qV (N:=(g.ne + 10)) (LO:=qY (yVJ g a b n sd)) yX yU (yV (l:=[(41,o_hp)]) (m:=[]) ⟨jXX,trivial⟩ trivial) (fun p S hp => ?_) ?_
 ·refine qX (L:=qQ Tf 27) (l:=(yVJ g a b n sd)) (show AllP _ (yVJ g a b n sd) from ⟨?_,trivial⟩) p S hp
  ·dsimp only;refine yK (T:=Tf) (o:=(ore1 g a b n sd)) (f:=27) (LO:=qY []) (p:=[0,1,0,1,1,1]) jQ ?_;intro t K r hr;obtain ⟨hg,hr⟩:=qZ hr;obtain ⟨hw,hN,hn⟩:=yGI hg;exact (lpe1 K g a b n sd hw hN hn).trans hr
 ·refine (jHZ g a b n sd).trans ?_;unfold csB;simp only [jJ (C:=chp) (t:=(g,a,b)) ⟨hp,hn⟩,vYQ];cases hq:wfB g && (isP g a && isP g b) with
  | false=>rfl
  | true =>
   simp only [vQJ] at hq;obtain ⟨hw,ha,hb⟩:=hq;by_cases h1:(n:Int)=(g.np:Int)
   ·obtain rfl:n=g.np:=by omega
    simp only [decide_true,Bool.not_true,vYQ,vYZ,vZW,yY,qJJ ha,qJJ hb,jWQ hw hn];cases sd a.toNat <;> cases sd b.toNat <;> cases allN (fun i:Nat=>seE g sd i) g.ne 0 <;> rfl
   ·rw [vYY h1]; rfl
noncomputable def yVQ (g:Gr) (a b:Int) (n:Nat) (sd:Nat→Bool):List (List Nat × zH):=[([0,1,0,1,1],sumF (fun _:Unit=>(he2 g a b n sd 0)) (fun _=>()) (fun _ K=>(bif (okC g n) then (bif (allN (fun i:Nat=>seE g sd i) g.ne 0) then (K (.exit 0) ⟨[],[]⟩) else (K .ret ⟨[(8,.v (.b false))],[]⟩)) else none)))]
set_option maxRecDepth 100000 in
theorem jGI (g:Gr) (a b:Int) (n:Nat) (sd:Nat→Bool):qQY Tf (ore2 g a b n sd) (qY (yVQ g a b n sd)) (g.ne + 10) 45 [.a (gP g),.n .i64 a,.n .i64 b,.lf n (bQ sd)] =
 (bif (gF1 cas eas (g,a,b)) then (bif (frB g && (isP g a && isP g b)) then (bif (!decide ((n:Int)=(g.np:Int))) then some (.v (.b false),[])
 else (bif (inB a n) then (bif (sd (a).toNat) then (bif (inB b n) then (bif (sd (b).toNat) then some (.v (.b false),[])
 else (bif (gSt (he2 g a b n sd 0) (he2 g a b n sd 0)) then (bif (okC g n) then (bif (allN (fun i:Nat=>seE g sd i) g.ne 0) then some (.v (.b true),[])
 else some (.v (.b false),[]))
 else none)
 else none))
 else none)
 else some (.v (.b false),[]))
 else none))
 else some (.v (.b false),[]))
 else none):=by kernel_rfl
theorem jQX (g:Gr) (a b:Int) (n:Nat) (sd:Nat→Bool) (hp:g.np≤100) (hn:g.ne≤500):yZ Try.prog 45 [.a (gP g),.n .i64 a,.n .i64 b,.lf n (bQ sd)] (.v (.b (csB g a b n sd))):=by
 refine qV (N:=(g.ne + 10)) (LO:=qY (yVQ g a b n sd)) yX yU (yV (l:=[(32,o_as)]) (m:=[]) ⟨jXF,trivial⟩ trivial) (fun p S hp => ?_) ?_
 ·refine qX (L:=qQ Tf 45) (l:=(yVQ g a b n sd)) (show AllP _ (yVQ g a b n sd) from ⟨?_,trivial⟩) p S hp
  ·dsimp only;refine yK (T:=Tf) (o:=(ore2 g a b n sd)) (f:=45) (LO:=qY []) (p:=[0,1,0,1,1]) jQ ?_;intro t K r hr;obtain ⟨hg,hr⟩:=qZ hr;obtain ⟨hw,hN,hn⟩:=yGI hg;exact (lpe2 K g a b n sd hw hN hn).trans hr
 ·refine (jGI g a b n sd).trans ?_;unfold csB;simp only [jJ (C:=cas) (t:=(g,a,b)) (show g.ne≤8192 by omega),vYQ,jJF];cases hq:wfB g && (isP g a && isP g b) with
  | false=>rfl
  | true =>
   simp only [vQJ] at hq;obtain ⟨hw,ha,hb⟩:=hq;by_cases h1:(n:Int)=(g.np:Int)
   ·obtain rfl:n=g.np:=by omega
    simp only [decide_true,Bool.not_true,vYQ,vYZ,vZW,yY,qJJ ha,qJJ hb,jWQ hw hn];cases sd a.toNat <;> cases sd b.toNat <;> cases allN (fun i:Nat=>seE g sd i) g.ne 0 <;> rfl
   ·rw [vYY h1]; rfl
def qHJ (f:Nat→Bool) (i:Nat) (x:Bool):Nat→Bool:=fun v=>bif Nat.beq v i then x else f v
theorem yZE (f:Nat→Bool) (i:Nat) (x:Bool):qHJ f i x i=x:=by unfold qHJ; rw [Nat.beq_refl]; rfl
theorem zVG {f:Nat→Bool} {i v:Nat} {x:Bool} (h:v ≠ i):qHJ f i x v=f v:=by
 have hb:Nat.beq v i=false:=by
  cases hb:Nat.beq v i with
  | false=>rfl
  | true=>exact absurd (vQU hb) h
 unfold qHJ; rw [hb]; rfl
theorem jWU {g:Gr} {a:Int} (ha:isP g a=true) (_:g.np≤100) {N:Nat} (hN:g.np < N) (f0:Nat→Bool):∃ f:Nat→Bool,qW (dcs1 g a) N (0,f0)=some (0,(g.np:Int),f)∧∀ v,v < g.np→f v=decide (coL g 2 v=coL g 2 a.toNat):=by
 have h1:=kZ (dec:=dcs1 g a) (nx:=fun (i:Nat) (s:Nat→Bool)=>qHJ s i (decide (coL g 2 i=coL g 2 a.toNat))) (Q:=fun _ _=>True) (out:=fun s=>((g.np:Int),s)) (c:=g.np) (fun i s hi _=>by
  dsimp only [dcs1];simp only [vYJ (show (i:Int) < (g.np:Int) by omega),zU hi,uK (show i < 1000000 by omega),qJJ ha,toN,vYQ];cases decide (coL g 2 i=coL g 2 a.toNat) <;> rfl) (fun _ _ _ _=>trivial) (fun s _=>by
  dsimp only [dcs1];rw [vYY (by omega)]; rfl) g.np 0 N f0 (by omega) hN trivial
 have h2:=uX (Q:=fun (i:Nat) (s:Nat→Bool)=>∀ v,v < i→s v=decide (coL g 2 v=coL g 2 a.toNat)) (c:=g.np) (nx:=fun (i:Nat) (s:Nat→Bool)=>qHJ s i (decide (coL g 2 i=coL g 2 a.toNat))) (fun i s hi hq=>fun v hv=>by
  by_cases e:v=i
  ·subst e; rw [yZE]
  ·rw [zVG e]; exact hq v (by omega)) g.np 0 f0 (by omega) (fun v hv=>absurd hv (Nat.not_lt_zero v))
 exact ⟨_,h1,h2⟩
theorem jWW {g:Gr} {a:Int} (_:g.np≤100) {N:Nat} (hN:g.np < N) (f0:Nat→Bool):∃ f:Nat→Bool,qW (dcr1 g a) N (0,0,f0)=some (0,(g.np:Int),g.np,f)∧∀ v,v < g.np→f v=decide (0≤(lbT g a 2).2.1 v):=by
 have h1:=kZ (dec:=dcr1 g a) (nx:=fun (i:Nat) (s:Nat × (Nat→Bool))=>(i + 1,qHJ s.2 i (decide (0≤(lbT g a 2).2.1 i)))) (Q:=fun i s=>s.1=i) (out:=fun s=>((g.np:Int),s)) (c:=g.np) (fun i s hi hq=>by
  obtain ⟨x,s⟩:=s;obtain rfl:x=i:=hq;dsimp only [dcr1];simp only [vYJ (show (x:Int) < (g.np:Int) by omega),zU hi,uK (show x < 1000000 by omega),toN,vYJ (show x + 1≤1000000 by omega),vYQ];cases decide (0≤(lbT g a 2).2.1 x) <;> rfl) (fun _ _ _ _=>rfl) (fun s hq=>by
  obtain ⟨x,s⟩:=s;obtain rfl:x=g.np:=hq;dsimp only [dcr1];rw [vYY (by omega)]; rfl) g.np 0 N (0,f0) (by omega) hN rfl
 have h2:=uX (Q:=fun (i:Nat) (s:Nat × (Nat→Bool))=>s.1=i∧∀ v,v < i→s.2 v=decide (0≤(lbT g a 2).2.1 v)) (c:=g.np) (nx:=fun (i:Nat) (s:Nat × (Nat→Bool))=>(i + 1,qHJ s.2 i (decide (0≤(lbT g a 2).2.1 i)))) (fun i s hi hq=>⟨rfl,fun v hv=>by
  show qHJ s.2 i _ v=_;by_cases e:v=i
  ·subst e; rw [yZE]
  ·rw [zVG e]; exact hq.2 v (by omega)⟩) g.np 0 (0,f0) (by omega) ⟨rfl,fun v hv=>absurd hv (Nat.not_lt_zero v)⟩
 refine ⟨_,h1.trans ?_,h2.2⟩;generalize hz:qHG (fun (i:Nat) (s:Nat × (Nat→Bool))=>(i + 1,qHJ s.2 i (decide (0≤(lbT g a 2).2.1 i)))) g.np 0 (0,f0)=z at h2 ⊢;obtain ⟨x,z⟩:=z;obtain rfl:x=g.np:=h2.1;rfl
noncomputable def sepB (g:Gr) (a b:Int):Bool:=(wfB g && (isP g a && isP g b)) && !decide (coL g 2 a.toNat=coL g 2 b.toNat)
noncomputable def sidF (g:Gr) (a:Int):Nat→Bool:=fun v=>decide (coL g 2 v=coL g 2 a.toNat)
theorem Same.bq {n:Nat} {f f':Nat→Bool} (h:∀ v,v < n→f v=f' v):Same (.lf n (bQ f)) (.lf n (bQ f')):=fun _ _ _ hr=>zZY (rows:=(List.range n).map (bQ f)) (List.map_congr_left fun v hv=>by unfold bQ; rw [h v (List.mem_range.1 hv)]) (zZJ rfl hr)
theorem yHQ {g:Gr} (hw:wfB g=true) (hp:g.np≤100) (hn:g.ne≤500) {a v:Nat} (ha:a < g.np) (hv:v < g.np):decide (0≤(lbT g (a:Int) 2).2.1 v)=decide (coL g 2 v=coL g 2 a):=by
 have hc:=jJH (g:=g) 2 hw hp hn ha hv;rcases yVW (m:=2) hw hp hn ha hv with ⟨h1,h2⟩ | ⟨h1,⟨p,h2⟩,_⟩
 ·rw [vYY (by omega),vYY (fun h=>by obtain ⟨c,p,h3⟩:=hc.1 h.symm; exact h2 c p h3)]
 ·rw [vYJ h1,vYJ (hc.2 ⟨_,p,h2⟩).symm]
noncomputable def yWD (N:Nat) (g:Gr) (a b:Int):List (List Nat × zH):=[([0,1,0,1,1,1,1,1,1],sumF (fun t:(Int × (Nat→Bool))=>(hs1 N g a b t.1 t.2)) (fun σ=>(slI σ 32,rgB σ 29 0)) (fun t K=>(bif zHI N g a t then kxs1 N g a b K (qHX N g a t) else none)))]
set_option maxRecDepth 100000 in
theorem jGB (N:Nat) (g:Gr) (a b:Int):qQY Tf (ors1 N g a b) (qY (yWD N g a b)) (N + 10) 25 [.a (gP g),.n .i64 a,.n .i64 b] =
 (bif (gF1 chp ehp (g,a,b)) then (bif (wfB g && (isP g a && isP g b)) then (bif (gF1 cco eco (g,2)) then (bif (inB a g.np) then (bif (inB b g.np) then (bif (decide (((coL g 2) (a).toNat)=((coL g 2) (b).toNat))) then some (.v (.t [.l [],.b false]),[])
 else (bif (decide (0≤(g.np:Int))) then (bif (decide ((g.np:Int)≤(g.np:Int))) then (bif (decide ((g.np:Int)≤1000000)) then (bif (gSt (hs1 N g a b 0 (fun _=>false)) (hs1 N g a b 0 (fun _=>false))) then (bif (zHI N g a (0,(fun _=>false))) then (bif (Nat.beq (qHX N g a (0,(fun _=>false))).1 0) then some (.v (.t [.lf g.np (fun v=>[.b ((qHX N g a (0,(fun _=>false))).2.2 v)]),.b true]),[])
 else none)
 else none)
 else none)
 else none)
 else none)
 else none))
 else none)
 else none)
 else none)
 else some (.v (.t [.l [],.b false]),[]))
 else none):=by kernel_rfl
theorem jQZ (N:Nat) (g:Gr) (a b:Int) (hN:N=NN) (hp:g.np≤100) (hn:g.ne≤500):yZ Try.prog 25 [.a (gP g),.n .i64 a,.n .i64 b] (bif sepB g a b then .v (.t [.lf g.np (bQ (qHX NN g a (0,(fun _=>false))).2.2),.b true]) else .v (.t [.l [],.b false])):=by
 refine qV (N:=(N + 10)) (LO:=qY (yWD N g a b)) yX yU (yV (l:=[(41,o_hp),(47,o_co)]) (m:=[]) ⟨jXX,kQH,trivial⟩ trivial) (fun p S hp => ?_) ?_
 ·refine qX (L:=qQ Tf 25) (l:=(yWD N g a b)) (show AllP _ (yWD N g a b) from ⟨?_,trivial⟩) p S hp
  ·dsimp only;refine yK (T:=Tf) (o:=(ors1 N g a b)) (f:=25) (LO:=qY []) (p:=[0,1,0,1,1,1,1,1,1]) jQ ?_;intro t K r hr;obtain ⟨hg,hr⟩:=qZ hr
   skip
   exact (lws1 K N g a b t hg).trans hr
 ·refine (jGB N g a b).trans ?_;subst hN;unfold sepB;simp only [jJ (C:=chp) (t:=(g,a,b)) ⟨hp,hn⟩,vYQ];cases hq:wfB g && (isP g a && isP g b) with
  | false=>rfl
  | true =>
   simp only [vQJ] at hq;obtain ⟨hw,ha,hb⟩:=hq;simp only [jJ (C:=cco) (t:=(g,2)) ⟨hw,hp,hn⟩,qJJ ha,qJJ hb,vYQ,vZW];cases decide (coL g 2 a.toNat=coL g 2 b.toNat) with
   | true=>rfl
   | false =>
    obtain ⟨f,h1,_⟩:=jWU ha hp (show g.np < NN + 10 by rw [qJV]; omega) (fun _=>false);have o1:zHI NN g a (0,(fun _=>false))=true:=by unfold zHI; rw [h1]; rfl
    have o2:qHX NN g a (0,(fun _=>false))=(0,(g.np:Int),f):=by unfold qHX; rw [h1]; rfl
    simp only [vYJ (show (0:Int)≤(g.np:Int) by omega),vYJ (show (g.np:Int)≤(g.np:Int) by omega),vYJ (show (g.np:Int)≤1000000 by omega),yY,o1,o2,vYQ,vYZ,Bool.not_false,Nat.beq_refl];rfl
theorem jKJ (g:Gr) (a b:Int) (hp:g.np≤100) (hn:g.ne≤500):yZ Try.prog 25 [.a (gP g),.n .i64 a,.n .i64 b] (.v (.t [.lf (bif sepB g a b then g.np else 0) (bQ (sidF g a)),.b (sepB g a b)])):=by
 have h:=jQZ NN g a b rfl hp hn;cases hf:sepB g a b with
 | false=>rw [hf] at h; exact qZK (Same.t (xs:=[_,_]) (ys:=[_,_]) ⟨Same.lf rfl,Same.refl _,trivial⟩) h
 | true =>
  rw [hf] at h;unfold sepB at hf;simp only [vQJ] at hf;obtain ⟨f,h1,h2⟩:=jWU hf.1.2.1 hp (show g.np < NN + 10 by rw [qJV]; omega) (fun _=>false);have o2:qHX NN g a (0,(fun _=>false))=(0,(g.np:Int),f):=by unfold qHX; rw [h1]; rfl
  rw [o2] at h;exact qZK (Same.t (xs:=[_,_]) (ys:=[_,_]) ⟨Same.bq h2,Same.refl _,trivial⟩) h
noncomputable def yWF (N:Nat) (g:Gr) (a b:Int):List (List Nat × zH):=[([0,1,0,1,1,1,1,1],sumF (fun t:(Int × Nat × (Nat→Bool))=>(hr1 N g a b t.1 t.2.1 t.2.2)) (fun σ=>(slI σ 10,rgN σ 39,rgB σ 39 0)) (fun t K=>(bif yQQ N g a t then kxr1 N g a b K (qGV N g a t) else none)))]
set_option maxRecDepth 100000 in
theorem jGD (N:Nat) (g:Gr) (a b:Int):qQY Tf (orr1 N g a b) (qY (yWF N g a b)) (N + 10) 23 [.a (gP g),.n .i64 a,.n .i64 b] =
 (bif (gF1 cas eas (g,a,b)) then (bif (frB g && (isP g a && isP g b)) then (bif (gF1 clb elb (g,a,2)) then (bif (inB b g.np) then (bif (decide (0≤((lbT g a 2).2.1 (b).toNat))) then some (.v (.t [.l [],.b false]),[])
 else (bif (gSt (hr1 N g a b 0 0 (fun _=>false)) (hr1 N g a b 0 0 (fun _=>false))) then (bif (yQQ N g a (0,0,(fun _=>false))) then (bif (Nat.beq (qGV N g a (0,0,(fun _=>false))).1 0) then some (.v (.t [.lf (qGV N g a (0,0,(fun _=>false))).2.2.1 (fun v=>[.b ((qGV N g a (0,0,(fun _=>false))).2.2.2 v)]),.b true]),[])
 else none)
 else none)
 else none))
 else none)
 else none)
 else some (.v (.t [.l [],.b false]),[]))
 else none):=by kernel_rfl
theorem jQJ (N:Nat) (g:Gr) (a b:Int) (hN:N=NN) (hp:g.np≤100) (hn:g.ne≤500):yZ Try.prog 23 [.a (gP g),.n .i64 a,.n .i64 b] (bif sepB g a b then .v (.t [.lf g.np (bQ (qGV NN g a (0,0,(fun _=>false))).2.2.2),.b true]) else .v (.t [.l [],.b false])):=by
 refine qV (N:=(N + 10)) (LO:=qY (yWF N g a b)) yX yU (yV (l:=[(32,o_as),(33,o_lb)]) (m:=[]) ⟨jXF,kQY,trivial⟩ trivial) (fun p S hp => ?_) ?_
 ·refine qX (L:=qQ Tf 23) (l:=(yWF N g a b)) (show AllP _ (yWF N g a b) from ⟨?_,trivial⟩) p S hp
  ·dsimp only;refine yK (T:=Tf) (o:=(orr1 N g a b)) (f:=23) (LO:=qY []) (p:=[0,1,0,1,1,1,1,1]) jQ ?_;intro t K r hr;obtain ⟨hg,hr⟩:=qZ hr
   skip
   exact (lwr1 K N g a b t hg).trans hr
 ·refine (jGD N g a b).trans ?_;subst hN;unfold sepB;simp only [jJ (C:=cas) (t:=(g,a,b)) (show g.ne≤8192 by omega),vYQ,jJF];cases hq:wfB g && (isP g a && isP g b) with
  | false=>rfl
  | true =>
   simp only [vQJ] at hq;obtain ⟨hw,ha,hb⟩:=hq;have ia:=qGB ha;have ib:=qGB hb;obtain ⟨x,rfl⟩:∃ n:Nat,a=(n:Int):=⟨a.toNat,by omega⟩
   obtain ⟨y,rfl⟩:∃ n:Nat,b=(n:Int):=⟨b.toNat,by omega⟩
   have hl:=yHQ hw hp hn (show x < g.np by omega) (show y < g.np by omega);simp only [jJ (C:=clb) (t:=(g,(x:Int),2)) ⟨hw,hp,hn,ia.1,ia.2⟩,qJJ hb,vYQ,vZW,toN,hl];have e:decide (coL g 2 x=coL g 2 y)=decide (coL g 2 y=coL g 2 x):=by
    by_cases h:coL g 2 x=coL g 2 y
    ·rw [vYJ h,vYJ h.symm]
    ·rw [vYY h,vYY (Ne.symm h)]
   rw [e];cases decide (coL g 2 y=coL g 2 x) with
   | true=>rfl
   | false =>
    obtain ⟨f,h1,_⟩:=jWW (g:=g) (a:=(x:Int)) hp (show g.np < NN + 10 by rw [qJV]; omega) (fun _=>false);have o1:yQQ NN g (x:Int) (0,0,(fun _=>false))=true:=by unfold yQQ; rw [h1]; rfl
    have o2:qGV NN g (x:Int) (0,0,(fun _=>false))=(0,(g.np:Int),g.np,f):=by unfold qGV; rw [h1]; rfl
    simp only [yY,o1,o2,vYQ,vYZ,Bool.not_false,Nat.beq_refl];rfl
theorem jKX (g:Gr) (a b:Int) (hp:g.np≤100) (hn:g.ne≤500):yZ Try.prog 23 [.a (gP g),.n .i64 a,.n .i64 b] (.v (.t [.lf (bif sepB g a b then g.np else 0) (bQ (sidF g a)),.b (sepB g a b)])):=by
 have h:=jQJ NN g a b rfl hp hn;cases hf:sepB g a b with
 | false=>rw [hf] at h; exact qZK (Same.t (xs:=[_,_]) (ys:=[_,_]) ⟨Same.lf rfl,Same.refl _,trivial⟩) h
 | true =>
  rw [hf] at h;unfold sepB at hf;simp only [vQJ] at hf;have ia:=qGB hf.1.2.1;obtain ⟨x,rfl⟩:∃ n:Nat,a=(n:Int):=⟨a.toNat,by omega⟩
  obtain ⟨f,h1,h2⟩:=jWW (g:=g) (a:=(x:Int)) hp (show g.np < NN + 10 by rw [qJV]; omega) (fun _=>false);have o2:qGV NN g (x:Int) (0,0,(fun _=>false))=(0,(g.np:Int),g.np,f):=by unfold qGV; rw [h1]; rfl
  rw [o2] at h;refine qZK (Same.t (xs:=[_,_]) (ys:=[_,_]) ⟨Same.bq (fun v hv=>(h2 v hv).trans ?_),Same.refl _,trivial⟩) h;unfold sidF;rw [toN];exact yHQ hf.1.1 hp hn (by omega) hv
end Go.Proofs.Ytglkkhpdbfacfaa.Co
namespace Go.Proofs.Ytglkkhpdbfacfaa.Cp
open Go.Rx Rt Go.Sx Go.RowKit Ba Bb Bc Bd Be Bf Bi Bj Bk Bl Bh Bm Bn Bo Bp Bq Br Bs Bt Bu Bv Bw Bx By Bz Ca Cb Cc Cd Cm Cn Co Ce
noncomputable def orsb (n m:Nat) (_ sb:Nat→Bool):OrS:=orS [] []
noncomputable def hsb (n m:Nat) (sa sb:Nat→Bool) (i:Int):St:=⟨[(0,.v (.lf n (bQ sa))),(1,.v (.lf m (bQ sb))),(5,.v (.n .i64 i))],[]⟩
set_option maxRecDepth 100000 in
theorem rdsb (G:St→Option (Ret × Mem)) (K:Cont) (n m:Nat) (sa sb:Nat→Bool) (i:Int):yJ (n + 10) (cxS Tf (orsb n m sa sb) (n + 10) 44 (ntmF Tf 44)) (evX Tf (orsb n m sa sb) (n + 10) 44 (ntmF Tf 44)) (qY []) (qQ Tf 44 [0,1,0,1,1]) [0,1,0,1,1] (Tf.hint 44 (qJ (qQ Tf 44 [0,1,0,1,1]))) K G (hsb n m sa sb i) =
 (bif (decide (i < (n:Int))) then (bif (inB i n) then (bif (sa (i).toNat) then (bif (inB i m) then (bif (sb (i).toNat) then (G (hsb n m sa sb (vYX .i64 (i + 1))))
 else (K .ret ⟨[(4,.v (.b false))],[]⟩))
 else none)
 else (bif (inB i m) then (bif (sb (i).toNat) then (K .ret ⟨[(4,.v (.b false))],[]⟩)
 else (G (hsb n m sa sb (vYX .i64 (i + 1)))))
 else none))
 else none)
 else (K (.exit 0) ⟨[],[]⟩)):=by kernel_rfl
theorem lpsb (K:Cont) (n m:Nat) (sa sb:Nat→Bool) (_:n≤1000) (_:n=m):LFX (n + 10) (cxS Tf (orsb n m sa sb) (n + 10) 44 (ntmF Tf 44)) (evX Tf (orsb n m sa sb) (n + 10) 44 (ntmF Tf 44)) (qY []) (qQ Tf 44 [0,1,0,1,1]) [0,1,0,1,1] (Tf.hint 44 (qJ (qQ Tf 44 [0,1,0,1,1]))) K (n + 10) (hsb n m sa sb 0)=bif (allN (fun i:Nat=>(sa i == sb i)) n 0) then (K (.exit 0) ⟨[],[]⟩) else (K .ret ⟨[(4,.v (.b false))],[]⟩):=by
 refine (qWU (L:=LFX (n + 10) (cxS Tf (orsb n m sa sb) (n + 10) 44 (ntmF Tf 44)) (evX Tf (orsb n m sa sb) (n + 10) 44 (ntmF Tf 44)) (qY []) (qQ Tf 44 [0,1,0,1,1]) [0,1,0,1,1] (Tf.hint 44 (qJ (qQ Tf 44 [0,1,0,1,1]))) K) (stp:=yJ (n + 10) (cxS Tf (orsb n m sa sb) (n + 10) 44 (ntmF Tf 44)) (evX Tf (orsb n m sa sb) (n + 10) 44 (ntmF Tf 44)) (qY []) (qQ Tf 44 [0,1,0,1,1]) [0,1,0,1,1] (Tf.hint 44 (qJ (qQ Tf 44 [0,1,0,1,1]))) K) (fun _ _=>rfl) (fun (i:Nat) (_:Unit)=>hsb n m sa sb (i:Int)) (fun _ _=>True) (fun (i:Nat) _=>(sa i == sb i)) (fun _ _=>()) (c:=n) (fun _=>(K (.exit 0) ⟨[],[]⟩)) (fun i _=>(K .ret ⟨[(4,.v (.b false))],[]⟩)) (fun G i f hi _ => ?_) (fun _ _ _ _ _=>trivial) (fun G f _ => ?_) n 0 (n + 10) () (by omega) (by omega) trivial).trans ((qQD _ _ _ _ _).trans (qQH _ _ _ _ _))
 ·refine (rdsb G K n m sa sb i).trans ?_;rw [vYJ (show (i:Int) < (n:Int) by omega),uK (by omega),zU (show i < n by omega),zU (show i < m by omega)];simp only [toN,vYQ];cases sa i <;> cases sb i <;> rfl
 ·refine (rdsb G K n m sa sb n).trans ?_;rw [vYY (show ¬ (n:Int) < (n:Int) by omega)];rfl
def sbB (n m:Nat) (sa sb:Nat→Bool):Bool:=decide ((n:Int)=(m:Int)) && allN (fun i:Nat=>(sa i == sb i)) n 0
noncomputable def lssb (n m:Nat) (sa sb:Nat→Bool):List (List Nat × zH):=[([0,1,0,1,1],sumF (fun _:Unit=>(hsb n m sa sb 0)) (fun _=>()) (fun _ K=>(bif (decide (n≤1000) && decide (n=m)) then (bif (allN (fun i:Nat=>(sa i == sb i)) n 0) then (K (.exit 0) ⟨[],[]⟩) else (K .ret ⟨[(4,.v (.b false))],[]⟩)) else none)))]
set_option maxRecDepth 100000 in
theorem pxsb (n m:Nat) (sa sb:Nat→Bool):qQY Tf (orsb n m sa sb) (qY (lssb n m sa sb)) (n + 10) 44 [.lf n (bQ sa),.lf m (bQ sb)] =
 (bif (!decide ((n:Int)=(m:Int))) then some (.v (.b false),[])
 else (bif (gSt (hsb n m sa sb 0) (hsb n m sa sb 0)) then (bif (decide (n≤1000) && decide (n=m)) then (bif (allN (fun i:Nat=>(sa i == sb i)) n 0) then some (.v (.b true),[])
 else some (.v (.b false),[]))
 else none)
 else none)):=by kernel_rfl
theorem jKK (n m:Nat) (sa sb:Nat→Bool) (hn:n≤1000):yZ Try.prog 44 [.lf n (bQ sa),.lf m (bQ sb)] (.v (.b (sbB n m sa sb))):=by
 refine qV (N:=(n + 10)) (LO:=qY (lssb n m sa sb)) yX yU (yV (l:=[]) (m:=[]) trivial trivial) (fun p S hp => ?_) ?_
 ·refine qX (L:=qQ Tf 44) (l:=(lssb n m sa sb)) (show AllP _ (lssb n m sa sb) from ⟨?_,trivial⟩) p S hp
  ·dsimp only;refine yK (T:=Tf) (o:=(orsb n m sa sb)) (f:=44) (LO:=qY []) (p:=[0,1,0,1,1]) jQ ?_;intro t K r hr;obtain ⟨hg,hr⟩:=qZ hr;have hh:=hg;simp only [vQJ,decide_eq_true_eq] at hh;obtain ⟨hn,hm⟩:=hh;exact (lpsb K n m sa sb hn hm).trans hr
 ·refine (pxsb n m sa sb).trans ?_;unfold sbB;by_cases h:(n:Int)=(m:Int)
  ·obtain rfl:n=m:=by omega
   simp only [decide_true,vYJ hn,yY,Bool.not_true,vYQ,vYZ,vZW];cases allN (fun i:Nat=>(sa i == sb i)) n 0 <;> rfl
  ·rw [vYY h]; rfl
def csb:Nat × Nat × (Nat→Bool) × (Nat→Bool)→Prop:=fun t=>match t with | (n,_,_,_)=>n≤1000
def esb:Nat × Nat × (Nat→Bool) × (Nat→Bool)→List PV:=fun t=>match t with | (n,m,sa,sb)=>[.lf n (bQ sa),.lf m (bQ sb)]
noncomputable def rsb:Nat × Nat × (Nat→Bool) × (Nat→Bool)→Ret:=fun t=>match t with | (n,m,sa,sb)=>.v (.b (sbB n m sa sb))
def dsb:List PV→Nat × Nat × (Nat→Bool) × (Nat→Bool):=fun ps=>match ps with
 | [.lf n f,.lf m g]=>(n,m,unBQ f,unBQ g)
 | _=>(0,0,fun _=>false,fun _=>false)
noncomputable def o_sb:List PV→Option (Bool × Ret):=o_fm dsb csb esb rsb
theorem jHC:uJ Try.prog 44 o_sb:=qQG fun t h=>by
 obtain ⟨n,m,sa,sb⟩:=t;exact jKK n m sa sb h
theorem yUL (n:Nat) (q:Nat→Bool):sbB n n q q=true:=by
 unfold sbB;rw [vYJ rfl,vZW];exact allN_iff.2 fun j _ _=>beq_self_eq_true (q j)
noncomputable def seN (g:Gr) (a b:Int):Nat:=bif sepB g a b then g.np else 0
def cse:Gr × Int × Int→Prop:=fun t=>match t with | (g,_,_)=>g.np≤100∧g.ne≤500
def ese:Gr × Int × Int→List PV:=fun t=>match t with | (g,a,b)=>[.a (gP g),.n .i64 a,.n .i64 b]
noncomputable def rse:Gr × Int × Int→Ret:=fun t=>match t with | (g,a,b)=>.v (.t [.lf (seN g a b) (bQ (sidF g a)),.b (sepB g a b)])
def dse:List PV→Gr × Int × Int:=fun ps=>match ps with
 | [.a [.lf np pt,.lf ne ed],.n _ a,.n _ b]=>(⟨np,pt,ne,unFE ed⟩,a,b)
 | _=>(⟨0,fun _=>[],0,fun _=>unE []⟩,0,0)
noncomputable def o_se:List PV→Option (Bool × Ret):=o_fm dse cse ese rse
theorem jHB:uJ Try.prog 25 o_se:=qQG fun t h=>by
 obtain ⟨g,a,b⟩:=t;exact jKJ g a b h.1 h.2
def crs:Gr × Int × Int→Prop:=fun t=>match t with | (g,_,_)=>g.np≤100∧g.ne≤500
def ers:Gr × Int × Int→List PV:=fun t=>match t with | (g,a,b)=>[.a (gP g),.n .i64 a,.n .i64 b]
noncomputable def rrs:Gr × Int × Int→Ret:=fun t=>match t with | (g,a,b)=>.v (.t [.lf (seN g a b) (bQ (sidF g a)),.b (sepB g a b)])
def drs:List PV→Gr × Int × Int:=fun ps=>match ps with
 | [.a [.lf np pt,.lf ne ed],.n _ a,.n _ b]=>(⟨np,pt,ne,unFE ed⟩,a,b)
 | _=>(⟨0,fun _=>[],0,fun _=>unE []⟩,0,0)
noncomputable def o_rs:List PV→Option (Bool × Ret):=o_fm drs crs ers rrs
theorem jUC:uJ Try.prog 23 o_rs:=qQG fun t h=>by
 obtain ⟨g,a,b⟩:=t;exact jKX g a b h.1 h.2
def ccse:Gr × Int × Int × Nat × (Nat→Bool)→Prop:=fun t=>match t with | (g,_,_,_,_)=>g.np≤100∧g.ne≤500
def ecse:Gr × Int × Int × Nat × (Nat→Bool)→List PV:=fun t=>match t with | (g,a,b,n,sd)=>[.a (gP g),.n .i64 a,.n .i64 b,.lf n (bQ sd)]
noncomputable def rcse:Gr × Int × Int × Nat × (Nat→Bool)→Ret:=fun t=>match t with | (g,a,b,n,sd)=>.v (.b (csB g a b n sd))
def dcse:List PV→Gr × Int × Int × Nat × (Nat→Bool):=fun ps=>match ps with
 | [.a [.lf np pt,.lf ne ed],.n _ a,.n _ b,.lf n f]=>(⟨np,pt,ne,unFE ed⟩,a,b,n,unBQ f)
 | _=>(⟨0,fun _=>[],0,fun _=>unE []⟩,0,0,0,fun _=>false)
noncomputable def jYF:List PV→Option (Bool × Ret):=o_fm dcse ccse ecse rcse
theorem jXA:uJ Try.prog 27 jYF:=qQG fun t h=>by
 obtain ⟨g,a,b,n,sd⟩:=t;exact jQG g a b n sd h.1 h.2
def crcs:Gr × Int × Int × Nat × (Nat→Bool)→Prop:=fun t=>match t with | (g,_,_,_,_)=>g.np≤100∧g.ne≤500
def ercs:Gr × Int × Int × Nat × (Nat→Bool)→List PV:=fun t=>match t with | (g,a,b,n,sd)=>[.a (gP g),.n .i64 a,.n .i64 b,.lf n (bQ sd)]
noncomputable def rrcs:Gr × Int × Int × Nat × (Nat→Bool)→Ret:=fun t=>match t with | (g,a,b,n,sd)=>.v (.b (csB g a b n sd))
def drcs:List PV→Gr × Int × Int × Nat × (Nat→Bool):=fun ps=>match ps with
 | [.a [.lf np pt,.lf ne ed],.n _ a,.n _ b,.lf n f]=>(⟨np,pt,ne,unFE ed⟩,a,b,n,unBQ f)
 | _=>(⟨0,fun _=>[],0,fun _=>unE []⟩,0,0,0,fun _=>false)
noncomputable def jYE:List PV→Option (Bool × Ret):=o_fm drcs crcs ercs rrcs
theorem jUD:uJ Try.prog 45 jYE:=qQG fun t h=>by
 obtain ⟨g,a,b,n,sd⟩:=t;exact jQX g a b n sd h.1 h.2
noncomputable def jHK (g:Gr) (a b:Int) (n:Nat) (_:Nat→Bool):OrS:=orS [(25,o_se),(23,o_rs),(44,o_sb),(27,jYF),(45,jYE)] []
noncomputable def yWB (g:Gr) (a b:Int) (n:Nat) (_:Nat→Bool):List (List Nat × zH):=[]
set_option maxRecDepth 100000 in
theorem jGH (g:Gr) (a b:Int) (n:Nat) (sd:Nat→Bool):qQY Tf (jHK g a b n sd) (qY (yWB g a b n sd)) 60 24 [.a (gP g),.n .i64 a,.n .i64 b,.lf n (bQ sd)] =
 (bif (gF1 cse ese (g,a,b)) then (bif (sepB g a b) then (bif (gF1 crs ers (g,a,b)) then (bif (sepB g a b) then (bif (gF1 csb esb ((seN g a b),(seN g a b),(sidF g a),(sidF g a))) then (bif (sbB (seN g a b) (seN g a b) (sidF g a) (sidF g a)) then (bif (gF1 ccse ecse (g,a,b,n,sd)) then (bif (csB g a b n sd) then (bif (gF1 crcs ercs (g,a,b,n,sd)) then (bif (csB g a b n sd) then some (.v (.b true),[])
 else some (.v (.b false),[]))
 else none)
 else (bif (gF1 crcs ercs (g,a,b,n,sd)) then (bif (csB g a b n sd) then some (.v (.b false),[])
 else some (.v (.b true),[]))
 else none))
 else none)
 else some (.v (.b false),[]))
 else none)
 else some (.v (.b false),[]))
 else none)
 else (bif (gF1 crs ers (g,a,b)) then (bif (sepB g a b) then some (.v (.b false),[])
 else (bif (gF1 csb esb ((seN g a b),(seN g a b),(sidF g a),(sidF g a))) then (bif (sbB (seN g a b) (seN g a b) (sidF g a) (sidF g a)) then (bif (gF1 ccse ecse (g,a,b,n,sd)) then (bif (csB g a b n sd) then (bif (gF1 crcs ercs (g,a,b,n,sd)) then (bif (csB g a b n sd) then some (.v (.b true),[])
 else some (.v (.b false),[]))
 else none)
 else (bif (gF1 crcs ercs (g,a,b,n,sd)) then (bif (csB g a b n sd) then some (.v (.b false),[])
 else some (.v (.b true),[]))
 else none))
 else none)
 else some (.v (.b false),[]))
 else none))
 else none))
 else none):=by kernel_rfl
theorem yHL (g:Gr) (a b:Int) (n:Nat) (sd:Nat→Bool) (hp:g.np≤100) (hn:g.ne≤500):yZ Try.prog 24 [.a (gP g),.n .i64 a,.n .i64 b,.lf n (bQ sd)] (.v (.b true)):=by
 refine qV (N:=60) (LO:=qY (yWB g a b n sd)) yX yU (yV (l:=[(25,o_se),(23,o_rs),(44,o_sb),(27,jYF),(45,jYE)]) (m:=[]) ⟨jHB,jUC,jHC,jXA,jUD,trivial⟩ trivial) (fun p S hp => ?_) ?_
 ·refine qX (L:=qQ Tf 24) (l:=(yWB g a b n sd)) (show AllP _ (yWB g a b n sd) from trivial) p S hp
 ·refine (jGH g a b n sd).trans ?_;have hl:seN g a b≤1000:=by
   unfold seN;cases sepB g a b
   ·exact Nat.zero_le _
   ·show g.np≤1000; omega
  simp only [jJ (C:=cse) (t:=(g,a,b)) ⟨hp,hn⟩,jJ (C:=crs) (t:=(g,a,b)) ⟨hp,hn⟩,jJ (C:=csb) (t:=(seN g a b,seN g a b,sidF g a,sidF g a)) hl,yUL,jJ (C:=ccse) (t:=(g,a,b,n,sd)) ⟨hp,hn⟩,jJ (C:=crcs) (t:=(g,a,b,n,sd)) ⟨hp,hn⟩,vYQ];cases sepB g a b <;> cases csB g a b n sd <;> rfl
def csps:Gr × Int × Int × Nat × (Nat→Bool)→Prop:=fun t=>match t with | (g,_,_,_,_)=>g.np≤100∧g.ne≤500
def esps:Gr × Int × Int × Nat × (Nat→Bool)→List PV:=fun t=>match t with | (g,a,b,n,sd)=>[.a (gP g),.n .i64 a,.n .i64 b,.lf n (bQ sd)]
noncomputable def rsps:Gr × Int × Int × Nat × (Nat→Bool)→Ret:=fun t=>match t with | (_,_,b,_,_)=>.v (.b true)
def dsps:List PV→Gr × Int × Int × Nat × (Nat→Bool):=fun ps=>match ps with
 | [.a [.lf np pt,.lf ne ed],.n _ a,.n _ b,.lf n f]=>(⟨np,pt,ne,unFE ed⟩,a,b,n,unBQ f)
 | _=>(⟨0,fun _=>[],0,fun _=>unE []⟩,0,0,0,fun _=>false)
noncomputable def jYD:List PV→Option (Bool × Ret):=o_fm dsps csps esps rsps
theorem jUA:uJ Try.prog 24 jYD:=qQG fun t h=>by
 obtain ⟨g,a,b,n,sd⟩:=t;exact yHL g a b n sd h.1 h.2
noncomputable def jHW (g g2:Gr) (a b:Int) (n:Nat) (_:Nat→Bool) (wl:Nat) (e:Nat→Int) (x:Int):OrS:=orS [(10,o_cr [] (.v (.b true))),(11,o_cr [.lf wl (fQ e)] (.v (.a (gP g2)))),(12,o_en),(23,o_rs),(14,o_rn),(24,jYD)] []
noncomputable def yVZ (g _:Gr) (a b:Int) (n:Nat) (_:Nat→Bool) (_:Nat) (e:Nat→Int) (x:Int):List (List Nat × zH):=[]
set_option maxRecDepth 100000 in
theorem jGL (g g2:Gr) (a b:Int) (n:Nat) (sd:Nat→Bool) (wl:Nat) (e:Nat→Int) (x:Int):qQY Tf (jHW g g2 a b n sd wl e x) (qY (yVZ g g2 a b n sd wl e x)) 60 7 [.a (gP g),.n .i64 a,.n .i64 b,.lf n (bQ sd),.lf wl (fQ e),.n .i64 x] =
 (bif (decide ((g.np:Int)≤30)) then (bif (decide ((g.ne:Int)≤60)) then (bif (decide (40 < (n:Int))) then (bif (g1 []) then some (.v (.b true),[])
 else none)
 else (bif (g1 [.lf wl (fQ e)]) then (bif (gF1 cen een (g2,a,b)) then (bif (gF1 crs ers (g2,(a % (g2.np:Int)),(b % (g2.np:Int)))) then (bif (sepB g2 (a % (g2.np:Int)) (b % (g2.np:Int))) then (bif (decide ((seN g2 (a % (g2.np:Int)) (b % (g2.np:Int)))≤1000000)) then (bif (decide (0 < ((seN g2 (a % (g2.np:Int)) (b % (g2.np:Int))):Int))) then (bif (gF1 crn ern (x,((seN g2 (a % (g2.np:Int)) (b % (g2.np:Int))):Int))) then (bif (gF1 crn ern (x,((seN g2 (a % (g2.np:Int)) (b % (g2.np:Int))):Int))) then (bif (inB (x % ((seN g2 (a % (g2.np:Int)) (b % (g2.np:Int))):Int)) (seN g2 (a % (g2.np:Int)) (b % (g2.np:Int)))) then (bif ((sidF g2 (a % (g2.np:Int))) (x % ((seN g2 (a % (g2.np:Int)) (b % (g2.np:Int))):Int)).toNat) then (bif (inB (x % ((seN g2 (a % (g2.np:Int)) (b % (g2.np:Int))):Int)) (seN g2 (a % (g2.np:Int)) (b % (g2.np:Int)))) then (bif (g1 []) then (bif (gF1 csps esps (g,a,b,n,sd)) then (bif (gF1 csps esps (g2,(a % (g2.np:Int)),(b % (g2.np:Int)),n,sd)) then (bif (gF1 csps esps (g2,(a % (g2.np:Int)),(b % (g2.np:Int)),(seN g2 (a % (g2.np:Int)) (b % (g2.np:Int))),(fun v=>((sidF g2 (a % (g2.np:Int))) v)))) then (bif (gF1 csps esps (g2,(a % (g2.np:Int)),(b % (g2.np:Int)),(seN g2 (a % (g2.np:Int)) (b % (g2.np:Int))),(fun v=>(bif (Nat.beq v (x % ((seN g2 (a % (g2.np:Int)) (b % (g2.np:Int))):Int)).toNat) then false else ((sidF g2 (a % (g2.np:Int))) v))))) then some (.v (.b true),[])
 else none)
 else none)
 else none)
 else none)
 else none)
 else none)
 else (bif (inB (x % ((seN g2 (a % (g2.np:Int)) (b % (g2.np:Int))):Int)) (seN g2 (a % (g2.np:Int)) (b % (g2.np:Int)))) then (bif (g1 []) then (bif (gF1 csps esps (g,a,b,n,sd)) then (bif (gF1 csps esps (g2,(a % (g2.np:Int)),(b % (g2.np:Int)),n,sd)) then (bif (gF1 csps esps (g2,(a % (g2.np:Int)),(b % (g2.np:Int)),(seN g2 (a % (g2.np:Int)) (b % (g2.np:Int))),(fun v=>((sidF g2 (a % (g2.np:Int))) v)))) then (bif (gF1 csps esps (g2,(a % (g2.np:Int)),(b % (g2.np:Int)),(seN g2 (a % (g2.np:Int)) (b % (g2.np:Int))),(fun v=>(bif (Nat.beq v (x % ((seN g2 (a % (g2.np:Int)) (b % (g2.np:Int))):Int)).toNat) then true else ((sidF g2 (a % (g2.np:Int))) v))))) then some (.v (.b true),[])
 else none)
 else none)
 else none)
 else none)
 else none)
 else none))
 else none)
 else none)
 else none)
 else (bif (g1 []) then (bif (gF1 csps esps (g,a,b,n,sd)) then (bif (gF1 csps esps (g2,(a % (g2.np:Int)),(b % (g2.np:Int)),n,sd)) then (bif (gF1 csps esps (g2,(a % (g2.np:Int)),(b % (g2.np:Int)),(seN g2 (a % (g2.np:Int)) (b % (g2.np:Int))),(fun v=>((sidF g2 (a % (g2.np:Int))) v)))) then (bif (gF1 csps esps (g2,(a % (g2.np:Int)),(b % (g2.np:Int)),(seN g2 (a % (g2.np:Int)) (b % (g2.np:Int))),(fun v=>((sidF g2 (a % (g2.np:Int))) v)))) then some (.v (.b true),[])
 else none)
 else none)
 else none)
 else none)
 else none))
 else none)
 else (bif (decide ((seN g2 (a % (g2.np:Int)) (b % (g2.np:Int)))≤1000000)) then (bif (decide (0 < ((seN g2 (a % (g2.np:Int)) (b % (g2.np:Int))):Int))) then (bif (gF1 crn ern (x,((seN g2 (a % (g2.np:Int)) (b % (g2.np:Int))):Int))) then (bif (gF1 crn ern (x,((seN g2 (a % (g2.np:Int)) (b % (g2.np:Int))):Int))) then (bif (inB (x % ((seN g2 (a % (g2.np:Int)) (b % (g2.np:Int))):Int)) (seN g2 (a % (g2.np:Int)) (b % (g2.np:Int)))) then (bif ((sidF g2 (a % (g2.np:Int))) (x % ((seN g2 (a % (g2.np:Int)) (b % (g2.np:Int))):Int)).toNat) then (bif (inB (x % ((seN g2 (a % (g2.np:Int)) (b % (g2.np:Int))):Int)) (seN g2 (a % (g2.np:Int)) (b % (g2.np:Int)))) then (bif (g1 []) then (bif (gF1 csps esps (g,a,b,n,sd)) then (bif (gF1 csps esps (g2,(a % (g2.np:Int)),(b % (g2.np:Int)),n,sd)) then (bif (gF1 csps esps (g2,(a % (g2.np:Int)),(b % (g2.np:Int)),(seN g2 (a % (g2.np:Int)) (b % (g2.np:Int))),(fun v=>((sidF g2 (a % (g2.np:Int))) v)))) then (bif (gF1 csps esps (g2,(a % (g2.np:Int)),(b % (g2.np:Int)),(seN g2 (a % (g2.np:Int)) (b % (g2.np:Int))),(fun v=>(bif (Nat.beq v (x % ((seN g2 (a % (g2.np:Int)) (b % (g2.np:Int))):Int)).toNat) then false else ((sidF g2 (a % (g2.np:Int))) v))))) then some (.v (.b true),[])
 else none)
 else none)
 else none)
 else none)
 else none)
 else none)
 else (bif (inB (x % ((seN g2 (a % (g2.np:Int)) (b % (g2.np:Int))):Int)) (seN g2 (a % (g2.np:Int)) (b % (g2.np:Int)))) then (bif (g1 []) then (bif (gF1 csps esps (g,a,b,n,sd)) then (bif (gF1 csps esps (g2,(a % (g2.np:Int)),(b % (g2.np:Int)),n,sd)) then (bif (gF1 csps esps (g2,(a % (g2.np:Int)),(b % (g2.np:Int)),(seN g2 (a % (g2.np:Int)) (b % (g2.np:Int))),(fun v=>((sidF g2 (a % (g2.np:Int))) v)))) then (bif (gF1 csps esps (g2,(a % (g2.np:Int)),(b % (g2.np:Int)),(seN g2 (a % (g2.np:Int)) (b % (g2.np:Int))),(fun v=>(bif (Nat.beq v (x % ((seN g2 (a % (g2.np:Int)) (b % (g2.np:Int))):Int)).toNat) then true else ((sidF g2 (a % (g2.np:Int))) v))))) then some (.v (.b true),[])
 else none)
 else none)
 else none)
 else none)
 else none)
 else none))
 else none)
 else none)
 else none)
 else (bif (g1 []) then (bif (gF1 csps esps (g,a,b,n,sd)) then (bif (gF1 csps esps (g2,(a % (g2.np:Int)),(b % (g2.np:Int)),n,sd)) then (bif (gF1 csps esps (g2,(a % (g2.np:Int)),(b % (g2.np:Int)),(seN g2 (a % (g2.np:Int)) (b % (g2.np:Int))),(fun v=>((sidF g2 (a % (g2.np:Int))) v)))) then (bif (gF1 csps esps (g2,(a % (g2.np:Int)),(b % (g2.np:Int)),(seN g2 (a % (g2.np:Int)) (b % (g2.np:Int))),(fun v=>((sidF g2 (a % (g2.np:Int))) v)))) then some (.v (.b true),[])
 else none)
 else none)
 else none)
 else none)
 else none))
 else none))
 else none)
 else none)
 else none))
 else (bif (g1 []) then some (.v (.b true),[])
 else none))
 else (bif (g1 []) then some (.v (.b true),[])
 else none)):=by kernel_rfl
theorem jQW (g g2:Gr) (a b:Int) (n:Nat) (sd:Nat→Bool) (wl:Nat) (e:Nat→Int) (x:Int) (hA:yZ Try.prog 10 [] (.v (.b true))) (hG:yZ Try.prog 11 [.lf wl (fQ e)] (.v (.a (gP g2)))) (hm:jGZ g2):yZ Try.prog 7 [.a (gP g),.n .i64 a,.n .i64 b,.lf n (bQ sd),.lf wl (fQ e),.n .i64 x] (.v (.b true)):=by
 refine qV (N:=60) (LO:=qY (yVZ g g2 a b n sd wl e x)) yX yU (yV (l:=[(10,o_cr [] (.v (.b true))),(11,o_cr [.lf wl (fQ e)] (.v (.a (gP g2)))),(12,o_en),(23,o_rs),(14,o_rn),(24,jYD)]) (m:=[]) ⟨jXB hA,jXB hG,kQV,jUC,jYX,jUA,trivial⟩ trivial) (fun p S hp => ?_) ?_
 ·refine qX (L:=qQ Tf 7) (l:=(yVZ g g2 a b n sd wl e x)) (show AllP _ (yVZ g g2 a b n sd wl e x) from trivial) p S hp
 ·refine (jGL g g2 a b n sd wl e x).trans ?_;obtain ⟨_,h2,h9,hn,_⟩:=hm;simp only [g1_t,vYQ];by_cases c1:(g.np:Int)≤30
  ·rw [vYJ c1,vYQ];by_cases c2:(g.ne:Int)≤60
   ·rw [vYJ c2,vYQ];by_cases c3:40 < (n:Int)
    ·rw [vYJ c3]; rfl
    ·rw [vYY c3,vYZ];have hp:g.np≤100∧g.ne≤500:=by omega
     have hp2:g2.np≤100∧g2.ne≤500:=by omega
     have f2:=jJ (C:=crs) (enc:=ers) (t:=(g2,a % (g2.np:Int),b % (g2.np:Int))) hp2;have k1:∀ a b n q,gF1 csps esps (g,a,b,n,q)=true:=fun a b n q=>jJ (C:=csps) (t:=(g,a,b,n,q)) hp
     have k2:∀ a b n q,gF1 csps esps (g2,a,b,n,q)=true:=fun a b n q=>jJ (C:=csps) (t:=(g2,a,b,n,q)) hp2
     have rk:∀ x,gF1 crn ern (x,(g2.np:Int))=true:=fun x=>jJ (C:=crn) (t:=(x,(g2.np:Int))) (by show 0 < (g2.np:Int)∧_; omega)
     have ib:inB (x % (g2.np:Int)) g2.np=true:=by
      have h1:=Int.emod_nonneg x (show (g2.np:Int) ≠ 0 by omega);have h3:=Int.emod_lt_of_pos x (show 0 < (g2.np:Int) by omega);unfold inB; rw [vYJ h1,vYJ (by omega)]; rfl
     simp only [jJ (C:=cen) (enc:=een) (t:=(g2,a,b)) (by show 0 < g2.np∧_; omega),f2,k1,k2,vYQ];cases hf:sepB g2 (a % (g2.np:Int)) (b % (g2.np:Int)) with
     | true =>
      have hN:seN g2 (a % (g2.np:Int)) (b % (g2.np:Int))=g2.np:=by unfold seN; rw [hf]; rfl
      simp only [hN,rk,ib,vYJ (show g2.np≤1000000 by omega),vYJ (show (0:Int) < (g2.np:Int) by omega),vYQ];cases sidF g2 (a % (g2.np:Int)) (x % (g2.np:Int)).toNat <;> rfl
     | false =>
      have hN:seN g2 (a % (g2.np:Int)) (b % (g2.np:Int))=0:=by unfold seN; rw [hf]; rfl
      simp only [hN,vYQ,vYZ]
      try rfl
   ·rw [vYY c2]; rfl
  ·rw [vYY c1]; rfl
end Go.Proofs.Ytglkkhpdbfacfaa.Cp
namespace Go.Proofs.Ytglkkhpdbfacfaa.Cq
open Go.Rx Rt Go.Sx Go.RowKit Go.ChangeShapes Go.WideShapes Ba Bb Bc Bd Be Bf Bi Bj Bk Bl Bh Bm Bn Bo Bp Bq Br Bs Bt Bu Bv Bw Bx By Bz Ca Cb Cc Cd Ce Cf Cm Cn Co Cp
section
variable {W:World} {H:Type} {enc:TypeId × Value→H} {r:Reach} {base:Nat} {v:Value} {d:DataW H} {p:List MemPlace}
def shB:List Sh:=[.b]
theorem jGX {ps:List PV} (h:Fits shB ps):∃ a:Bool,ps=[PV.b a]:=by
 unfold shB at h;obtain ⟨p0,q0,rfl,f0,h⟩:=h.cons;obtain rfl:=h.nil;obtain ⟨x0,rfl⟩:=f0.bool;exact ⟨x0,rfl⟩
theorem jGJ:shT Try.prog 9 47=some [.l shB]:=by kernel_rfl
set_option maxRecDepth 100000 in
theorem open_bls (hv:Value.okWide Try.prog W r base 47 v) (h:DataW.Trod enc Try.prog W 0 (fun _=>true) true 47 v d p):∃ (n:Nat) (q:Nat→Bool),RP (fun k=>k < W.heap.size) W (.lf n (bQ q)) v:=by
 obtain ⟨a,l,c,rfl⟩:=zVV Try.underlying47 hv;obtain ⟨ps,h1,h2,h3,_⟩:=zKX h jGJ;obtain ⟨p0,rfl⟩:∃ p0,ps=[p0]:=by
  match ps,h1 with
  | [p0],_=>exact ⟨p0,rfl⟩
 have h4:RP (fun k=>k < W.heap.size) W p0 (.slice a l c):=h3.2 0 p0 _ rfl rfl;obtain ⟨n,f,rfl,hr⟩:=(h2 0 _ p0 rfl rfl).slc;obtain ⟨q,hq⟩:=jWF false (R:=fun ps z=>ps=[PV.b z]) fun j hj=>jGX (hr j hj)
 exact ⟨n,q,yJY (g:=bQ q) hq _ _ _ h4⟩
end
theorem snd_bse (hA:yZ Try.prog 10 [] (.v (.b true))) (g:Gr) (a b:Int) (n:Nat) (q:Nat→Bool) (l:List Int) (hl:l.length≤9223372036854775807) (x:Int):yZ Try.prog 7 [.a (gP g),.n .i64 a,.n .i64 b,.lf n (bQ q),yJV l,.n .i64 x] (.v (.b true)):=by
 obtain ⟨g2,hG,hm⟩:=kZU l.length (iqOf l) hl;refine yUE (fun F w vals h=>Sames.al (xs:=[.a (gP g),.n .i64 a,.n .i64 b,.lf n (bQ q),yJV l,.n .i64 x]) (ys:=[.a (gP g),.n .i64 a,.n .i64 b,.lf n (bQ q),.lf l.length (fQ (iqOf l)),.n .i64 x]) ⟨fun _ _ _ h=>h,fun _ _ _ h=>h,fun _ _ _ h=>h,fun _ _ _ h=>h,yJW l,fun _ _ _ h=>h,trivial⟩ h) ?_;exact jQW g g2 a b n q _ _ x hA hG hm
end Go.Proofs.Ytglkkhpdbfacfaa.Cq
namespace Go.Proofs.Ytglkkhpdbfacfaa
open Go.Rx Go.Sx Go.RowKit Bb Co
theorem qVB (v0:Value) (g0:Gr) (a1:Int) (a2:Int) (v3:Value) (n3:Nat) (q3:Nat→Bool) (v4:Value) (L4:List Int) (a5:Int) (W:World) (h0:RP (fun k=>k < W.heap.size) W (.a (gP g0)) v0) (h3:RP (fun k=>k < W.heap.size) W (.lf n3 (bQ q3)) v3) (h4:yUX W v4 L4):Calls Try.prog 7 #[v0,.int .i64 a1,.int .i64 a2,v3,v4,.int .i64 a5] W (Rets (.bool true) W) :=
 zJF (Cq.snd_bse Ag.call g0 a1 a2 n3 q3 L4 h4.2.1 a5) rfl (qYC h0 (qYC (.n _ _) (qYC (.n _ _) (qYC h3 (qYC h4.1 (qYC (.n _ _) zXQ))))))
end Go.Proofs.Ytglkkhpdbfacfaa

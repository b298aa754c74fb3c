/- Part 28 of the texts behind the last one: rules and contracts. No condition. -/
import Derived.Test.YtklmegnpfhiibaaGreatBK27
open Bool renaming and_eq_true → vQJ
open Go.IntKind renaming wrap → vYW
namespace Go.Proofs.YtklmegnpfhiibaaGreat.Ya
open Go.Rx Rt Go.Sx Go.RowKit Od Ba Bb Bc Bn
def NN:Nat:=200000
theorem yQL:NN=200000:=rfl
def leR (c1 p1 c2 p2:Int):Prop:=c1 < c2 ∨ (c1=c2∧p1≤p2)
def setF (f:Nat→Int) (y:Nat) (z:Int):Nat→Int:=fun v=>bif Nat.beq v y then z else f v
theorem qWJ (f:Nat→Int) (y:Nat) (z:Int):setF f y z y=z:=by unfold setF; rw [Nat.beq_refl]; rfl
theorem qKH {f:Nat→Int} {y v:Nat} {z:Int} (h:v ≠ y):setF f y z v=f v:=by unfold setF; rw [qJH,vYJ h]; rfl
def stQ (g:Gr) (a b m:Int):Bool:=wfB g && (isP g a && (isP g b && (!decide (m < 0) && !decide (2 < m))))
theorem zGY {g:Gr} {v:Int} (h:isP g v=true):0≤v∧v < (g.np:Int):=by
 unfold isP at h
 simpa using h
structure LOk (np:Nat) (ln:Nat→Nat) (lt lc:Nat→Nat→Int):Prop where
 hnp:np≤100
 hto:∀ u w,u < np→w < ln u→0≤lt u w∧lt u w < (np:Int)
 hco:∀ u w,u < np→w < ln u→0≤lc u w∧lc u w≤1099511627776
inductive Wk (np:Nat) (ln:Nat→Nat) (lt lc:Nat→Nat→Int) (b:Nat):Nat→Int→Int→Prop
 | nil:Wk np ln lt lc b b 0 1
 | cons {x y w:Nat} {c p:Int} (h:Wk np ln lt lc b x c p) (hx:x < np) (hw:w < ln x) (hy:lt x w=(y:Int)):Wk np ln lt lc b y (c + lc x w) (p + 1)
theorem zKC {g:Gr} {m:Int} (h:wfB g=true) (hp:g.np≤100):LOk g.np (lkO g m).1 (lkO g m).2.1 (lkO g m).2.2:=by
 obtain ⟨k1,k2⟩:=zKD g m;have key:∀ u w,w < (lkO g m).1 u→Jn g m g.ne u ((lkO g m).2.1 u w) ((lkO g m).2.2 u w):=fun u w hw=>(k2 u _ _).1 ⟨w,hw,rfl,rfl⟩
 refine ⟨hp,fun u w _ hw => ?_,fun u w _ hw => ?_⟩
 ·obtain ⟨e,he,_,_,h4⟩:=key u w hw
  have:=qXU h he
  rcases h4 with h4 | h4 <;> omega
 ·obtain ⟨e,he,_,h3,_⟩:=key u w hw
  have:=qXU h he
  omega
section
variable {np:Nat} {ln:Nat→Nat} {lt lc:Nat→Nat→Int} {b:Nat}
theorem Wk.bd (hl:LOk np ln lt lc) {x:Nat} {c p:Int} (h:Wk np ln lt lc b x c p):0≤c∧1≤p∧c≤(p - 1) * 1099511627776:=by
 induction h with
 | nil=>omega
 | cons h hx hw hy ih =>
  have:=hl.hco _ _ hx hw
  omega
theorem Wk.one (hl:LOk np ln lt lc) {x:Nat} {c p:Int} (h:Wk np ln lt lc b x c p) (_:p=1):x=b∧c=0:=by
 cases h with
 | nil=>exact ⟨rfl,rfl⟩
 | cons h hx hw hy=>have:=h.bd hl; omega
theorem Wk.ltn (hl:LOk np ln lt lc) (hb:b < np) {x:Nat} {c p:Int} (h:Wk np ln lt lc b x c p):x < np:=by
 cases h with
 | nil=>exact hb
 | cons h hx hw hy=>have:=hl.hto _ _ hx hw; omega
def Bst (np:Nat) (ln:Nat→Nat) (lt lc:Nat→Nat→Int) (b x:Nat) (c p:Int):Prop:=Wk np ln lt lc b x c p∧∀ c' p',Wk np ln lt lc b x c' p'→leR c p c' p'
theorem minN {Q:Nat→Prop} (n:Nat):Q n→∃ k,Q k∧∀ j,Q j→k≤j:=by
 induction n using Nat.strongRecOn with
 | ind n ih =>
  intro h;by_cases hc:∃ j,j < n∧Q j
  ·obtain ⟨j,h1,h2⟩:=hc;exact ih j h1 h2
  ·exact ⟨n,h,fun j hj=>Nat.le_of_not_lt fun hl=>hc ⟨j,hl,hj⟩⟩
theorem Bst.ex (hl:LOk np ln lt lc) {x:Nat} {c p:Int} (h:Wk np ln lt lc b x c p):∃ c p,Bst np ln lt lc b x c p:=by
 have e:=h.bd hl;obtain ⟨k,⟨p1,h1⟩,h2⟩:=minN (Q:=fun k=>∃ p,Wk np ln lt lc b x (k:Int) p) c.toNat ⟨p,by rw [show ((c.toNat:Nat):Int)=c by omega]; exact h⟩;have e1:=h1.bd hl;obtain ⟨q,h3,h4⟩:=minN (Q:=fun q=>Wk np ln lt lc b x (k:Int) (q:Int)) p1.toNat (by rw [show ((p1.toNat:Nat):Int)=p1 by omega]; exact h1);refine ⟨_,_,h3,fun c' p' h' => ?_⟩;have e2:=h'.bd hl;have h5:=h2 c'.toNat ⟨p',by rw [show ((c'.toNat:Nat):Int)=c' by omega]; exact h'⟩;by_cases hc:c'=(k:Int)
 ·subst hc;have h6:=h4 p'.toNat (by rw [show ((p'.toNat:Nat):Int)=p' by omega]; exact h');unfold leR; omega
 ·unfold leR; omega
theorem Bst.all (hl:LOk np ln lt lc) (hb:b < np):∀ (q:Nat) {y:Nat} {c:Int},Bst np ln lt lc b y c (q:Int)→∀ k:Nat,1≤k→k≤q→∃ x,x < np∧∃ c',Bst np ln lt lc b x c' (k:Int)
 | 0,y,c,h,k,h1,h2=>by omega
 | q + 1,y,c,h,k,h1,h2=>by
  by_cases e:k=q + 1
  ·subst e;exact ⟨y,h.1.ltn hl hb,c,h⟩
  ·obtain ⟨h3,h4⟩:=h;generalize hq:((q + 1:Nat):Int)=z at h3 h4;cases h3 with
   | nil=>omega
   | @cons x _ w c0 p0 h5 h6 h7 h8 =>
    obtain rfl:p0=(q:Int):=by omega
    refine Bst.all hl hb q ⟨h5,fun c' p' h' => ?_⟩ k h1 (by omega)
    have:=h4 _ _ (Wk.cons h' h6 h7 h8)
    unfold leR at *; omega
theorem pigeon:∀ (n:Nat) (R:Nat→Nat→Prop),(∀ k,k≤n→∃ x,x < n∧R k x)→(∀ k k' x,k≤n→k'≤n→R k x→R k' x→k=k')→False
 | 0,R,h,_=>by
  obtain ⟨x,h1,_⟩:=h 0 (Nat.le_refl _);omega
 | n + 1,R,h,hi=>by
  obtain ⟨x0,h1,h2⟩:=h (n + 1) (Nat.le_refl _);refine pigeon n (fun k x=>(R k x∧x ≠ n) ∨ (R k n∧x=x0)) (fun k hk => ?_) (fun k k' x hk hk' a a' => ?_)
  ·obtain ⟨x,h3,h4⟩:=h k (by omega);by_cases e:x=n
   ·subst e;refine ⟨x0,?_,.inr ⟨h4,rfl⟩⟩
    have:x0 ≠ x:=fun e=>by
     subst e
     have:=hi _ _ _ (by omega) (by omega) h4 h2
     omega
    omega
   ·exact ⟨x,by omega,.inl ⟨h4,e⟩⟩
  ·rcases a with ⟨a,a1⟩ | ⟨a,rfl⟩ <;> rcases a' with ⟨a',a2⟩ | ⟨a',e⟩
   ·exact hi _ _ _ (by omega) (by omega) a a'
   ·subst e
    have:=hi _ _ _ (by omega) (by omega) a h2
    omega
   ·have:=hi _ _ _ (by omega) (by omega) a' h2
    omega
   ·exact hi _ _ _ (by omega) (by omega) a a'
theorem Bst.small (hl:LOk np ln lt lc) (hb:b < np) {y:Nat} {c p:Int} (h:Bst np ln lt lc b y c p):p≤(np:Int):=by
 have e:=h.1.bd hl;by_cases hp:p≤(np:Int)
 ·exact hp
 ·obtain ⟨q,rfl⟩:∃ q:Nat,p=(q:Int):=⟨p.toNat,by omega⟩
  refine absurd (pigeon np (fun k x=>∃ c',Bst np ln lt lc b x c' ((k + 1:Nat):Int)) (fun k hk=>Bst.all hl hb q h (k + 1) (by omega) (by omega)) ?_) id
  rintro k k' x _ _ ⟨c1,h1⟩ ⟨c2,h2⟩
  have h3:=h1.2 _ _ h2.1;have h4:=h2.2 _ _ h1.1;unfold leR at h3 h4; omega
end
abbrev WkG (g:Gr) (m:Int) (b:Nat):Nat→Int→Int→Prop:=Wk g.np (lkO g m).1 (lkO g m).2.1 (lkO g m).2.2 b
theorem bestW {g:Gr} {m:Int} {b:Nat} (hw:wfB g=true) (hp:g.np≤100) {a:Nat} (hb:b < g.np):(∀ c p,¬ WkG g m b a c p) ∨ ∃ c p,WkG g m b a c p∧p≤101∧∀ c' p',WkG g m b a c' p'→leR c p c' p':=by
 have hl:=zKC (m:=m) hw hp;by_cases h:∃ c p,WkG g m b a c p
 ·obtain ⟨c,p,h⟩:=h;obtain ⟨c',p',h1⟩:=Bst.ex hl h
  have:=h1.small hl hb
  exact .inr ⟨c',p',h1.1,by omega,h1.2⟩
 ·exact .inl fun c p h1=>h ⟨c,p,h1⟩
def Least (g:Gr) (m:Int) (b v:Nat) (c:Int):Prop:=(∃ p,WkG g m b v c p)∧∀ c' p',WkG g m b v c' p'→c≤c'
theorem Least.uniq {g:Gr} {m:Int} {b v:Nat} {c c':Int} (h:Least g m b v c) (h':Least g m b v c'):c=c':=by
 obtain ⟨⟨p,h1⟩,h2⟩:=h;obtain ⟨⟨p',h3⟩,h4⟩:=h'
 have:=h2 _ _ h3
 have:=h4 _ _ h1
 omega
end Go.Proofs.YtklmegnpfhiibaaGreat.Ya
namespace Go.Proofs.YtklmegnpfhiibaaGreat.Yb
open Go.Rx Rt Go.Sx Go.RowKit Ba Bb Bc Bn Ya
def zN:Nat→Int:=fun _=>0
noncomputable def orl0 (N:Nat) (g:Gr) (b m:Int):OrS:=orS [(40,o_ru),(70,o_ls)] []
noncomputable def hl0 (N:Nat) (g:Gr) (b m:Int) (i:Int) (oc:Nat→Int) (oe:Nat→Int):St:=⟨[(1,.v (.n .i64 b)),(2,.v (.n .i64 m)),(3,.p 3 0),(7,.o 18),(8,.v (.n .i64 i))],[(3,.blk [.v (.lf g.np g.pt),.v (.lf g.ne (fE g.ed))]),(18,.reg 88 2 (.fo (g.np:Int).toNat (fun v=>[.n .i64 (oc v),.n .i64 (oe v)])))]⟩
set_option maxRecDepth 100000 in
theorem rdl0 (G:St→Option (Ret × Mem)) (K:Cont) (N:Nat) (g:Gr) (b m:Int) (i:Int) (oc:Nat→Int) (oe:Nat→Int):stpT Tf 39 (orl0 N g b m) (N + 10) [] [0,1,0,1,1] K G (hl0 N g b m i oc oe) =
 (bif (decide (i < ((g.np:Int).toNat:Int))) then (bif (inB i (g.np:Int).toNat) then (G (hl0 N g b m (vYW .i64 (i + 1)) (fun v=>(bif (Nat.beq v (i).toNat) then (-1) else (oc v))) (fun v=>(bif (Nat.beq v (i).toNat) then (oe (i).toNat) else (oe v)))))
 else none)
 else (K (.exit 0) ⟨[(1,.v (.n .i64 b)),(2,.v (.n .i64 m)),(3,.p 3 0),(7,.o 18)],[(3,.blk [.v (.lf g.np g.pt),.v (.lf g.ne (fE g.ed))]),(18,.reg 88 2 (.fo (g.np:Int).toNat (fun v=>[.n .i64 (oc v),.n .i64 (oe v)])))]⟩)):=by kernel_rfl
noncomputable def dcl0 (g:Gr):(Int × (Nat→Int) × (Nat→Int))→(Int × (Nat→Int) × (Nat→Int)) ⊕ (Nat × Int × (Nat→Int) × (Nat→Int)):=fun t=>match t with | (i,oc,oe)=>(bif (decide (i < ((g.np:Int).toNat:Int))) then (bif (inB i (g.np:Int).toNat) then (.inl ((vYW .i64 (i + 1)),(fun v=>(bif (Nat.beq v (i).toNat) then (-1) else (oc v))),(fun v=>(bif (Nat.beq v (i).toNat) then (oe (i).toNat) else (oe v))))) else (.inr (1,(i,oc,oe)))) else (.inr (0,(i,oc,oe))))
noncomputable def kxl0 (N:Nat) (g:Gr) (b m:Int) (K:Cont) (w9:Nat × Int × (Nat→Int) × (Nat→Int)):Option (Ret × Mem):=bif Nat.beq w9.1 0 then (K (.exit 0) ⟨[(1,.v (.n .i64 b)),(2,.v (.n .i64 m)),(3,.p 3 0),(7,.o 18)],[(3,.blk [.v (.lf g.np g.pt),.v (.lf g.ne (fE g.ed))]),(18,.reg 88 2 (.fo (g.np:Int).toNat (fun v=>[.n .i64 (w9.2.2.1 v),.n .i64 (w9.2.2.2 v)])))]⟩) else none
theorem wll0 (K:Cont) (N:Nat) (g:Gr) (b m:Int):∀ n9 (t:(Int × (Nat→Int) × (Nat→Int))),LFT Tf 39 (orl0 N g b m) (N + 10) [] [0,1,0,1,1] K n9 (hl0 N g b m t.1 t.2.1 t.2.2)=(qG (dcl0 g) n9 t).bind (kxl0 N g b m K):=fun n9 t=>by
 refine qYG (L:=LFT Tf 39 (orl0 N g b m) (N + 10) [] [0,1,0,1,1] K) (stp:=stpT Tf 39 (orl0 N g b m) (N + 10) [] [0,1,0,1,1] K) (fun _ _=>rfl) (fun _=>rfl) (fun t=>hl0 N g b m t.1 t.2.1 t.2.2) (fun _=>True) (dcl0 g) (kxl0 N g b m K) (fun G t _ => ?_) (fun _ _ _ _=>trivial) n9 t trivial;obtain ⟨i,oc,oe⟩:=t;refine (rdl0 G K N g b m i oc oe).trans ?_;dsimp only [dcl0];cases (decide (i < ((g.np:Int).toNat:Int)))
 ·rfl
 ·cases (inB i (g.np:Int).toNat)
  ·rfl
  ·rfl
noncomputable def zWA (N:Nat) (g:Gr) (t:(Int × (Nat→Int) × (Nat→Int))):Bool:=(qG (dcl0 g) (N + 10) t).isSome
noncomputable def qYD (N:Nat) (g:Gr) (t:(Int × (Nat→Int) × (Nat→Int))):Nat × Int × (Nat→Int) × (Nat→Int):=(qG (dcl0 g) (N + 10) t).getD (99,t)
theorem lwl0 (K:Cont) (N:Nat) (g:Gr) (b m:Int) (t:(Int × (Nat→Int) × (Nat→Int))) (hg:zWA N g t=true):LFT Tf 39 (orl0 N g b m) (N + 10) [] [0,1,0,1,1] K (N + 10) (hl0 N g b m t.1 t.2.1 t.2.2)=kxl0 N g b m K (qYD N g t):=by
 refine (wll0 K N g b m (N + 10) t).trans ?_;unfold zWA at hg;unfold qYD;cases h:qG (dcl0 g) (N + 10) t with
 | none=>rw [h] at hg; cases hg
 | some y=>rfl
noncomputable def hl2 (N:Nat) (g:Gr) (b m:Int) (i:Int) (ag:Bool) (oc:Nat→Int) (oe:Nat→Int):St:=⟨[(2,.v (.n .i64 m)),(3,.p 3 0),(7,.o 18),(9,.v (.b (ag))),(10,.v (.n .i64 i))],[(3,.blk [.v (.lf g.np g.pt),.v (.lf g.ne (fE g.ed))]),(18,.reg 88 2 (.fo (g.np:Int).toNat (fun v=>[.n .i64 (oc v),.n .i64 (oe v)])))]⟩
set_option maxRecDepth 100000 in
theorem rdl2 (G:St→Option (Ret × Mem)) (K:Cont) (N:Nat) (g:Gr) (b m:Int) (i:Int) (ag:Bool) (oc:Nat→Int) (oe:Nat→Int):stpT Tf 39 (orl0 N g b m) (N + 10) [] [0,1,1,0,1,0,0,1,0,1,1,1,1] K G (hl2 N g b m i ag oc oe) =
 (bif (decide (i < (g.ne:Int))) then (bif (inB i g.ne) then (bif (gF1 cru eru ((g.ed (i).toNat),m)) then (bif (usB (g.ed (i).toNat).s m) then (bif (inB ((g.ed (i).toNat).u) (g.np:Int).toNat) then (bif (decide ((oc ((g.ed (i).toNat).u).toNat) < 0)) then (bif (inB ((g.ed (i).toNat).v) (g.np:Int).toNat) then (bif (decide ((oc ((g.ed (i).toNat).v).toNat) < 0)) then (G (hl2 N g b m (vYW .i64 (i + 1)) ag (fun v=>(oc v)) (fun v=>(oe v))))
 else (bif (inB ((g.ed (i).toNat).u) (g.np:Int).toNat) then (bif (gF1 cls els ((vYW .i64 ((oc ((g.ed (i).toNat).v).toNat) + (g.ed (i).toNat).c)),(vYW .i64 ((oe ((g.ed (i).toNat).v).toNat) + 1)),(oc ((g.ed (i).toNat).u).toNat),(oe ((g.ed (i).toNat).u).toNat))) then (bif (lsB (vYW .i64 ((oc ((g.ed (i).toNat).v).toNat) + (g.ed (i).toNat).c)) (vYW .i64 ((oe ((g.ed (i).toNat).v).toNat) + 1)) (oc ((g.ed (i).toNat).u).toNat) (oe ((g.ed (i).toNat).u).toNat)) then (bif (inB ((g.ed (i).toNat).u) (g.np:Int).toNat) then (G (hl2 N g b m (vYW .i64 (i + 1)) true (fun v=>(bif (Nat.beq v ((g.ed (i).toNat).u).toNat) then (vYW .i64 ((oc ((g.ed (i).toNat).v).toNat) + (g.ed (i).toNat).c)) else (oc v))) (fun v=>(bif (Nat.beq v ((g.ed (i).toNat).u).toNat) then (vYW .i64 ((oe ((g.ed (i).toNat).v).toNat) + 1)) else (oe v)))))
 else none)
 else (G (hl2 N g b m (vYW .i64 (i + 1)) ag (fun v=>(oc v)) (fun v=>(oe v)))))
 else none)
 else none))
 else none)
 else (bif (inB ((g.ed (i).toNat).v) (g.np:Int).toNat) then (bif (gF1 cls els ((vYW .i64 ((oc ((g.ed (i).toNat).u).toNat) + (g.ed (i).toNat).c)),(vYW .i64 ((oe ((g.ed (i).toNat).u).toNat) + 1)),(oc ((g.ed (i).toNat).v).toNat),(oe ((g.ed (i).toNat).v).toNat))) then (bif (lsB (vYW .i64 ((oc ((g.ed (i).toNat).u).toNat) + (g.ed (i).toNat).c)) (vYW .i64 ((oe ((g.ed (i).toNat).u).toNat) + 1)) (oc ((g.ed (i).toNat).v).toNat) (oe ((g.ed (i).toNat).v).toNat)) then (bif (inB ((g.ed (i).toNat).v) (g.np:Int).toNat) then (bif (inB ((g.ed (i).toNat).v) (g.np:Int).toNat) then (bif (decide ((bif (Nat.beq ((g.ed (i).toNat).v).toNat ((g.ed (i).toNat).v).toNat) then (vYW .i64 ((oc ((g.ed (i).toNat).u).toNat) + (g.ed (i).toNat).c)) else (oc ((g.ed (i).toNat).v).toNat)) < 0)) then (G (hl2 N g b m (vYW .i64 (i + 1)) true (fun v=>(bif (Nat.beq v ((g.ed (i).toNat).v).toNat) then (vYW .i64 ((oc ((g.ed (i).toNat).u).toNat) + (g.ed (i).toNat).c)) else (oc v))) (fun v=>(bif (Nat.beq v ((g.ed (i).toNat).v).toNat) then (vYW .i64 ((oe ((g.ed (i).toNat).u).toNat) + 1)) else (oe v)))))
 else (bif (inB ((g.ed (i).toNat).u) (g.np:Int).toNat) then (bif (gF1 cls els ((vYW .i64 ((bif (Nat.beq ((g.ed (i).toNat).v).toNat ((g.ed (i).toNat).v).toNat) then (vYW .i64 ((oc ((g.ed (i).toNat).u).toNat) + (g.ed (i).toNat).c)) else (oc ((g.ed (i).toNat).v).toNat)) + (g.ed (i).toNat).c)),(vYW .i64 ((bif (Nat.beq ((g.ed (i).toNat).v).toNat ((g.ed (i).toNat).v).toNat) then (vYW .i64 ((oe ((g.ed (i).toNat).u).toNat) + 1)) else (oe ((g.ed (i).toNat).v).toNat)) + 1)),(bif (Nat.beq ((g.ed (i).toNat).u).toNat ((g.ed (i).toNat).v).toNat) then (vYW .i64 ((oc ((g.ed (i).toNat).u).toNat) + (g.ed (i).toNat).c)) else (oc ((g.ed (i).toNat).u).toNat)),(bif (Nat.beq ((g.ed (i).toNat).u).toNat ((g.ed (i).toNat).v).toNat) then (vYW .i64 ((oe ((g.ed (i).toNat).u).toNat) + 1)) else (oe ((g.ed (i).toNat).u).toNat)))) then (bif (lsB (vYW .i64 ((bif (Nat.beq ((g.ed (i).toNat).v).toNat ((g.ed (i).toNat).v).toNat) then (vYW .i64 ((oc ((g.ed (i).toNat).u).toNat) + (g.ed (i).toNat).c)) else (oc ((g.ed (i).toNat).v).toNat)) + (g.ed (i).toNat).c)) (vYW .i64 ((bif (Nat.beq ((g.ed (i).toNat).v).toNat ((g.ed (i).toNat).v).toNat) then (vYW .i64 ((oe ((g.ed (i).toNat).u).toNat) + 1)) else (oe ((g.ed (i).toNat).v).toNat)) + 1)) (bif (Nat.beq ((g.ed (i).toNat).u).toNat ((g.ed (i).toNat).v).toNat) then (vYW .i64 ((oc ((g.ed (i).toNat).u).toNat) + (g.ed (i).toNat).c)) else (oc ((g.ed (i).toNat).u).toNat)) (bif (Nat.beq ((g.ed (i).toNat).u).toNat ((g.ed (i).toNat).v).toNat) then (vYW .i64 ((oe ((g.ed (i).toNat).u).toNat) + 1)) else (oe ((g.ed (i).toNat).u).toNat))) then (bif (inB ((g.ed (i).toNat).u) (g.np:Int).toNat) then (G (hl2 N g b m (vYW .i64 (i + 1)) true (fun v=>(bif (Nat.beq v ((g.ed (i).toNat).u).toNat) then (vYW .i64 ((bif (Nat.beq ((g.ed (i).toNat).v).toNat ((g.ed (i).toNat).v).toNat) then (vYW .i64 ((oc ((g.ed (i).toNat).u).toNat) + (g.ed (i).toNat).c)) else (oc ((g.ed (i).toNat).v).toNat)) + (g.ed (i).toNat).c)) else (bif (Nat.beq v ((g.ed (i).toNat).v).toNat) then (vYW .i64 ((oc ((g.ed (i).toNat).u).toNat) + (g.ed (i).toNat).c)) else (oc v)))) (fun v=>(bif (Nat.beq v ((g.ed (i).toNat).u).toNat) then (vYW .i64 ((bif (Nat.beq ((g.ed (i).toNat).v).toNat ((g.ed (i).toNat).v).toNat) then (vYW .i64 ((oe ((g.ed (i).toNat).u).toNat) + 1)) else (oe ((g.ed (i).toNat).v).toNat)) + 1)) else (bif (Nat.beq v ((g.ed (i).toNat).v).toNat) then (vYW .i64 ((oe ((g.ed (i).toNat).u).toNat) + 1)) else (oe v))))))
 else none)
 else (G (hl2 N g b m (vYW .i64 (i + 1)) true (fun v=>(bif (Nat.beq v ((g.ed (i).toNat).v).toNat) then (vYW .i64 ((oc ((g.ed (i).toNat).u).toNat) + (g.ed (i).toNat).c)) else (oc v))) (fun v=>(bif (Nat.beq v ((g.ed (i).toNat).v).toNat) then (vYW .i64 ((oe ((g.ed (i).toNat).u).toNat) + 1)) else (oe v))))))
 else none)
 else none))
 else none)
 else none)
 else (bif (inB ((g.ed (i).toNat).v) (g.np:Int).toNat) then (bif (decide ((oc ((g.ed (i).toNat).v).toNat) < 0)) then (G (hl2 N g b m (vYW .i64 (i + 1)) ag (fun v=>(oc v)) (fun v=>(oe v))))
 else (bif (inB ((g.ed (i).toNat).u) (g.np:Int).toNat) then (bif (gF1 cls els ((vYW .i64 ((oc ((g.ed (i).toNat).v).toNat) + (g.ed (i).toNat).c)),(vYW .i64 ((oe ((g.ed (i).toNat).v).toNat) + 1)),(oc ((g.ed (i).toNat).u).toNat),(oe ((g.ed (i).toNat).u).toNat))) then (bif (lsB (vYW .i64 ((oc ((g.ed (i).toNat).v).toNat) + (g.ed (i).toNat).c)) (vYW .i64 ((oe ((g.ed (i).toNat).v).toNat) + 1)) (oc ((g.ed (i).toNat).u).toNat) (oe ((g.ed (i).toNat).u).toNat)) then (bif (inB ((g.ed (i).toNat).u) (g.np:Int).toNat) then (G (hl2 N g b m (vYW .i64 (i + 1)) true (fun v=>(bif (Nat.beq v ((g.ed (i).toNat).u).toNat) then (vYW .i64 ((oc ((g.ed (i).toNat).v).toNat) + (g.ed (i).toNat).c)) else (oc v))) (fun v=>(bif (Nat.beq v ((g.ed (i).toNat).u).toNat) then (vYW .i64 ((oe ((g.ed (i).toNat).v).toNat) + 1)) else (oe v)))))
 else none)
 else (G (hl2 N g b m (vYW .i64 (i + 1)) ag (fun v=>(oc v)) (fun v=>(oe v)))))
 else none)
 else none))
 else none))
 else none)
 else none))
 else none)
 else (G (hl2 N g b m (vYW .i64 (i + 1)) ag (fun v=>(oc v)) (fun v=>(oe v)))))
 else none)
 else none)
 else (K (.exit 4) ⟨[(2,.v (.n .i64 m)),(3,.p 3 0),(7,.o 18),(9,.v (.b (ag)))],[(3,.blk [.v (.lf g.np g.pt),.v (.lf g.ne (fE g.ed))]),(18,.reg 88 2 (.fo (g.np:Int).toNat (fun v=>[.n .i64 (oc v),.n .i64 (oe v)])))]⟩)):=by kernel_rfl
noncomputable def dcl2 (g:Gr) (m:Int):(Int × Bool × (Nat→Int) × (Nat→Int))→(Int × Bool × (Nat→Int) × (Nat→Int)) ⊕ (Nat × Int × Bool × (Nat→Int) × (Nat→Int)):=fun t=>match t with | (i,ag,oc,oe)=>(bif (decide (i < (g.ne:Int))) then (bif (inB i g.ne) then (bif (gF1 cru eru ((g.ed (i).toNat),m)) then (bif (usB (g.ed (i).toNat).s m) then (bif (inB ((g.ed (i).toNat).u) (g.np:Int).toNat) then (bif (decide ((oc ((g.ed (i).toNat).u).toNat) < 0)) then (bif (inB ((g.ed (i).toNat).v) (g.np:Int).toNat) then (bif (decide ((oc ((g.ed (i).toNat).v).toNat) < 0)) then (.inl ((vYW .i64 (i + 1)),ag,(fun v=>(oc v)),(fun v=>(oe v)))) else (bif (gF1 cls els ((vYW .i64 ((oc ((g.ed (i).toNat).v).toNat) + (g.ed (i).toNat).c)),(vYW .i64 ((oe ((g.ed (i).toNat).v).toNat) + 1)),(oc ((g.ed (i).toNat).u).toNat),(oe ((g.ed (i).toNat).u).toNat))) then (bif (lsB (vYW .i64 ((oc ((g.ed (i).toNat).v).toNat) + (g.ed (i).toNat).c)) (vYW .i64 ((oe ((g.ed (i).toNat).v).toNat) + 1)) (oc ((g.ed (i).toNat).u).toNat) (oe ((g.ed (i).toNat).u).toNat)) then (.inl ((vYW .i64 (i + 1)),true,(fun v=>(bif (Nat.beq v ((g.ed (i).toNat).u).toNat) then (vYW .i64 ((oc ((g.ed (i).toNat).v).toNat) + (g.ed (i).toNat).c)) else (oc v))),(fun v=>(bif (Nat.beq v ((g.ed (i).toNat).u).toNat) then (vYW .i64 ((oe ((g.ed (i).toNat).v).toNat) + 1)) else (oe v))))) else (.inl ((vYW .i64 (i + 1)),ag,(fun v=>(oc v)),(fun v=>(oe v))))) else (.inr (1,(i,ag,oc,oe))))) else (.inr (1,(i,ag,oc,oe)))) else (bif (inB ((g.ed (i).toNat).v) (g.np:Int).toNat) then (bif (gF1 cls els ((vYW .i64 ((oc ((g.ed (i).toNat).u).toNat) + (g.ed (i).toNat).c)),(vYW .i64 ((oe ((g.ed (i).toNat).u).toNat) + 1)),(oc ((g.ed (i).toNat).v).toNat),(oe ((g.ed (i).toNat).v).toNat))) then (bif (lsB (vYW .i64 ((oc ((g.ed (i).toNat).u).toNat) + (g.ed (i).toNat).c)) (vYW .i64 ((oe ((g.ed (i).toNat).u).toNat) + 1)) (oc ((g.ed (i).toNat).v).toNat) (oe ((g.ed (i).toNat).v).toNat)) then (bif (decide ((bif (Nat.beq ((g.ed (i).toNat).v).toNat ((g.ed (i).toNat).v).toNat) then (vYW .i64 ((oc ((g.ed (i).toNat).u).toNat) + (g.ed (i).toNat).c)) else (oc ((g.ed (i).toNat).v).toNat)) < 0)) then (.inl ((vYW .i64 (i + 1)),true,(fun v=>(bif (Nat.beq v ((g.ed (i).toNat).v).toNat) then (vYW .i64 ((oc ((g.ed (i).toNat).u).toNat) + (g.ed (i).toNat).c)) else (oc v))),(fun v=>(bif (Nat.beq v ((g.ed (i).toNat).v).toNat) then (vYW .i64 ((oe ((g.ed (i).toNat).u).toNat) + 1)) else (oe v))))) else (bif (gF1 cls els ((vYW .i64 ((bif (Nat.beq ((g.ed (i).toNat).v).toNat ((g.ed (i).toNat).v).toNat) then (vYW .i64 ((oc ((g.ed (i).toNat).u).toNat) + (g.ed (i).toNat).c)) else (oc ((g.ed (i).toNat).v).toNat)) + (g.ed (i).toNat).c)),(vYW .i64 ((bif (Nat.beq ((g.ed (i).toNat).v).toNat ((g.ed (i).toNat).v).toNat) then (vYW .i64 ((oe ((g.ed (i).toNat).u).toNat) + 1)) else (oe ((g.ed (i).toNat).v).toNat)) + 1)),(bif (Nat.beq ((g.ed (i).toNat).u).toNat ((g.ed (i).toNat).v).toNat) then (vYW .i64 ((oc ((g.ed (i).toNat).u).toNat) + (g.ed (i).toNat).c)) else (oc ((g.ed (i).toNat).u).toNat)),(bif (Nat.beq ((g.ed (i).toNat).u).toNat ((g.ed (i).toNat).v).toNat) then (vYW .i64 ((oe ((g.ed (i).toNat).u).toNat) + 1)) else (oe ((g.ed (i).toNat).u).toNat)))) then (bif (lsB (vYW .i64 ((bif (Nat.beq ((g.ed (i).toNat).v).toNat ((g.ed (i).toNat).v).toNat) then (vYW .i64 ((oc ((g.ed (i).toNat).u).toNat) + (g.ed (i).toNat).c)) else (oc ((g.ed (i).toNat).v).toNat)) + (g.ed (i).toNat).c)) (vYW .i64 ((bif (Nat.beq ((g.ed (i).toNat).v).toNat ((g.ed (i).toNat).v).toNat) then (vYW .i64 ((oe ((g.ed (i).toNat).u).toNat) + 1)) else (oe ((g.ed (i).toNat).v).toNat)) + 1)) (bif (Nat.beq ((g.ed (i).toNat).u).toNat ((g.ed (i).toNat).v).toNat) then (vYW .i64 ((oc ((g.ed (i).toNat).u).toNat) + (g.ed (i).toNat).c)) else (oc ((g.ed (i).toNat).u).toNat)) (bif (Nat.beq ((g.ed (i).toNat).u).toNat ((g.ed (i).toNat).v).toNat) then (vYW .i64 ((oe ((g.ed (i).toNat).u).toNat) + 1)) else (oe ((g.ed (i).toNat).u).toNat))) then (.inl ((vYW .i64 (i + 1)),true,(fun v=>(bif (Nat.beq v ((g.ed (i).toNat).u).toNat) then (vYW .i64 ((bif (Nat.beq ((g.ed (i).toNat).v).toNat ((g.ed (i).toNat).v).toNat) then (vYW .i64 ((oc ((g.ed (i).toNat).u).toNat) + (g.ed (i).toNat).c)) else (oc ((g.ed (i).toNat).v).toNat)) + (g.ed (i).toNat).c)) else (bif (Nat.beq v ((g.ed (i).toNat).v).toNat) then (vYW .i64 ((oc ((g.ed (i).toNat).u).toNat) + (g.ed (i).toNat).c)) else (oc v)))),(fun v=>(bif (Nat.beq v ((g.ed (i).toNat).u).toNat) then (vYW .i64 ((bif (Nat.beq ((g.ed (i).toNat).v).toNat ((g.ed (i).toNat).v).toNat) then (vYW .i64 ((oe ((g.ed (i).toNat).u).toNat) + 1)) else (oe ((g.ed (i).toNat).v).toNat)) + 1)) else (bif (Nat.beq v ((g.ed (i).toNat).v).toNat) then (vYW .i64 ((oe ((g.ed (i).toNat).u).toNat) + 1)) else (oe v)))))) else (.inl ((vYW .i64 (i + 1)),true,(fun v=>(bif (Nat.beq v ((g.ed (i).toNat).v).toNat) then (vYW .i64 ((oc ((g.ed (i).toNat).u).toNat) + (g.ed (i).toNat).c)) else (oc v))),(fun v=>(bif (Nat.beq v ((g.ed (i).toNat).v).toNat) then (vYW .i64 ((oe ((g.ed (i).toNat).u).toNat) + 1)) else (oe v)))))) else (.inr (1,(i,ag,oc,oe))))) else (bif (decide ((oc ((g.ed (i).toNat).v).toNat) < 0)) then (.inl ((vYW .i64 (i + 1)),ag,(fun v=>(oc v)),(fun v=>(oe v)))) else (bif (gF1 cls els ((vYW .i64 ((oc ((g.ed (i).toNat).v).toNat) + (g.ed (i).toNat).c)),(vYW .i64 ((oe ((g.ed (i).toNat).v).toNat) + 1)),(oc ((g.ed (i).toNat).u).toNat),(oe ((g.ed (i).toNat).u).toNat))) then (bif (lsB (vYW .i64 ((oc ((g.ed (i).toNat).v).toNat) + (g.ed (i).toNat).c)) (vYW .i64 ((oe ((g.ed (i).toNat).v).toNat) + 1)) (oc ((g.ed (i).toNat).u).toNat) (oe ((g.ed (i).toNat).u).toNat)) then (.inl ((vYW .i64 (i + 1)),true,(fun v=>(bif (Nat.beq v ((g.ed (i).toNat).u).toNat) then (vYW .i64 ((oc ((g.ed (i).toNat).v).toNat) + (g.ed (i).toNat).c)) else (oc v))),(fun v=>(bif (Nat.beq v ((g.ed (i).toNat).u).toNat) then (vYW .i64 ((oe ((g.ed (i).toNat).v).toNat) + 1)) else (oe v))))) else (.inl ((vYW .i64 (i + 1)),ag,(fun v=>(oc v)),(fun v=>(oe v))))) else (.inr (1,(i,ag,oc,oe)))))) else (.inr (1,(i,ag,oc,oe)))) else (.inr (1,(i,ag,oc,oe))))) else (.inr (1,(i,ag,oc,oe)))) else (.inl ((vYW .i64 (i + 1)),ag,(fun v=>(oc v)),(fun v=>(oe v))))) else (.inr (1,(i,ag,oc,oe)))) else (.inr (1,(i,ag,oc,oe)))) else (.inr (0,(i,ag,oc,oe))))
noncomputable def kxl2 (N:Nat) (g:Gr) (b m:Int) (K:Cont) (w9:Nat × Int × Bool × (Nat→Int) × (Nat→Int)):Option (Ret × Mem):=bif Nat.beq w9.1 0 then (K (.exit 4) ⟨[(2,.v (.n .i64 m)),(3,.p 3 0),(7,.o 18),(9,.v (.b (w9.2.2.1)))],[(3,.blk [.v (.lf g.np g.pt),.v (.lf g.ne (fE g.ed))]),(18,.reg 88 2 (.fo (g.np:Int).toNat (fun v=>[.n .i64 (w9.2.2.2.1 v),.n .i64 (w9.2.2.2.2 v)])))]⟩) else none
theorem wll2 (K:Cont) (N:Nat) (g:Gr) (b m:Int):∀ n9 (t:(Int × Bool × (Nat→Int) × (Nat→Int))),LFT Tf 39 (orl0 N g b m) (N + 10) [] [0,1,1,0,1,0,0,1,0,1,1,1,1] K n9 (hl2 N g b m t.1 t.2.1 t.2.2.1 t.2.2.2)=(qG (dcl2 g m) n9 t).bind (kxl2 N g b m K):=fun n9 t=>by
 refine qYG (L:=LFT Tf 39 (orl0 N g b m) (N + 10) [] [0,1,1,0,1,0,0,1,0,1,1,1,1] K) (stp:=stpT Tf 39 (orl0 N g b m) (N + 10) [] [0,1,1,0,1,0,0,1,0,1,1,1,1] K) (fun _ _=>rfl) (fun _=>rfl) (fun t=>hl2 N g b m t.1 t.2.1 t.2.2.1 t.2.2.2) (fun _=>True) (dcl2 g m) (kxl2 N g b m K) (fun G t _ => ?_) (fun _ _ _ _=>trivial) n9 t trivial;obtain ⟨i,ag,oc,oe⟩:=t;refine (rdl2 G K N g b m i ag oc oe).trans ?_;dsimp only [dcl2];cases (decide (i < (g.ne:Int)))
 ·rfl
 ·cases (inB i g.ne)
  ·rfl
  ·cases (gF1 cru eru ((g.ed (i).toNat),m))
   ·rfl
   ·cases (usB (g.ed (i).toNat).s m)
    ·rfl
    ·cases (inB ((g.ed (i).toNat).u) (g.np:Int).toNat)
     ·rfl
     ·cases (decide ((oc ((g.ed (i).toNat).u).toNat) < 0))
      ·cases (inB ((g.ed (i).toNat).v) (g.np:Int).toNat)
       ·rfl
       ·cases (gF1 cls els ((vYW .i64 ((oc ((g.ed (i).toNat).u).toNat) + (g.ed (i).toNat).c)),(vYW .i64 ((oe ((g.ed (i).toNat).u).toNat) + 1)),(oc ((g.ed (i).toNat).v).toNat),(oe ((g.ed (i).toNat).v).toNat)))
        ·rfl
        ·cases (lsB (vYW .i64 ((oc ((g.ed (i).toNat).u).toNat) + (g.ed (i).toNat).c)) (vYW .i64 ((oe ((g.ed (i).toNat).u).toNat) + 1)) (oc ((g.ed (i).toNat).v).toNat) (oe ((g.ed (i).toNat).v).toNat))
         ·cases (decide ((oc ((g.ed (i).toNat).v).toNat) < 0))
          ·cases (gF1 cls els ((vYW .i64 ((oc ((g.ed (i).toNat).v).toNat) + (g.ed (i).toNat).c)),(vYW .i64 ((oe ((g.ed (i).toNat).v).toNat) + 1)),(oc ((g.ed (i).toNat).u).toNat),(oe ((g.ed (i).toNat).u).toNat)))
           ·rfl
           ·cases (lsB (vYW .i64 ((oc ((g.ed (i).toNat).v).toNat) + (g.ed (i).toNat).c)) (vYW .i64 ((oe ((g.ed (i).toNat).v).toNat) + 1)) (oc ((g.ed (i).toNat).u).toNat) (oe ((g.ed (i).toNat).u).toNat))
            ·rfl
            ·rfl
          ·rfl
         ·cases (decide ((bif (Nat.beq ((g.ed (i).toNat).v).toNat ((g.ed (i).toNat).v).toNat) then (vYW .i64 ((oc ((g.ed (i).toNat).u).toNat) + (g.ed (i).toNat).c)) else (oc ((g.ed (i).toNat).v).toNat)) < 0))
          ·cases (gF1 cls els ((vYW .i64 ((bif (Nat.beq ((g.ed (i).toNat).v).toNat ((g.ed (i).toNat).v).toNat) then (vYW .i64 ((oc ((g.ed (i).toNat).u).toNat) + (g.ed (i).toNat).c)) else (oc ((g.ed (i).toNat).v).toNat)) + (g.ed (i).toNat).c)),(vYW .i64 ((bif (Nat.beq ((g.ed (i).toNat).v).toNat ((g.ed (i).toNat).v).toNat) then (vYW .i64 ((oe ((g.ed (i).toNat).u).toNat) + 1)) else (oe ((g.ed (i).toNat).v).toNat)) + 1)),(bif (Nat.beq ((g.ed (i).toNat).u).toNat ((g.ed (i).toNat).v).toNat) then (vYW .i64 ((oc ((g.ed (i).toNat).u).toNat) + (g.ed (i).toNat).c)) else (oc ((g.ed (i).toNat).u).toNat)),(bif (Nat.beq ((g.ed (i).toNat).u).toNat ((g.ed (i).toNat).v).toNat) then (vYW .i64 ((oe ((g.ed (i).toNat).u).toNat) + 1)) else (oe ((g.ed (i).toNat).u).toNat))))
           ·rfl
           ·cases (lsB (vYW .i64 ((bif (Nat.beq ((g.ed (i).toNat).v).toNat ((g.ed (i).toNat).v).toNat) then (vYW .i64 ((oc ((g.ed (i).toNat).u).toNat) + (g.ed (i).toNat).c)) else (oc ((g.ed (i).toNat).v).toNat)) + (g.ed (i).toNat).c)) (vYW .i64 ((bif (Nat.beq ((g.ed (i).toNat).v).toNat ((g.ed (i).toNat).v).toNat) then (vYW .i64 ((oe ((g.ed (i).toNat).u).toNat) + 1)) else (oe ((g.ed (i).toNat).v).toNat)) + 1)) (bif (Nat.beq ((g.ed (i).toNat).u).toNat ((g.ed (i).toNat).v).toNat) then (vYW .i64 ((oc ((g.ed (i).toNat).u).toNat) + (g.ed (i).toNat).c)) else (oc ((g.ed (i).toNat).u).toNat)) (bif (Nat.beq ((g.ed (i).toNat).u).toNat ((g.ed (i).toNat).v).toNat) then (vYW .i64 ((oe ((g.ed (i).toNat).u).toNat) + 1)) else (oe ((g.ed (i).toNat).u).toNat)))
            ·rfl
            ·rfl
          ·rfl
      ·cases (inB ((g.ed (i).toNat).v) (g.np:Int).toNat)
       ·rfl
       ·cases (decide ((oc ((g.ed (i).toNat).v).toNat) < 0))
        ·cases (gF1 cls els ((vYW .i64 ((oc ((g.ed (i).toNat).v).toNat) + (g.ed (i).toNat).c)),(vYW .i64 ((oe ((g.ed (i).toNat).v).toNat) + 1)),(oc ((g.ed (i).toNat).u).toNat),(oe ((g.ed (i).toNat).u).toNat)))
         ·rfl
         ·cases (lsB (vYW .i64 ((oc ((g.ed (i).toNat).v).toNat) + (g.ed (i).toNat).c)) (vYW .i64 ((oe ((g.ed (i).toNat).v).toNat) + 1)) (oc ((g.ed (i).toNat).u).toNat) (oe ((g.ed (i).toNat).u).toNat))
          ·rfl
          ·rfl
        ·rfl
noncomputable def zXJ (N:Nat) (g:Gr) (m:Int) (t:(Int × Bool × (Nat→Int) × (Nat→Int))):Bool:=(qG (dcl2 g m) (N + 10) t).isSome
noncomputable def qGK (N:Nat) (g:Gr) (m:Int) (t:(Int × Bool × (Nat→Int) × (Nat→Int))):Nat × Int × Bool × (Nat→Int) × (Nat→Int):=(qG (dcl2 g m) (N + 10) t).getD (99,t)
theorem lwl2 (K:Cont) (N:Nat) (g:Gr) (b m:Int) (t:(Int × Bool × (Nat→Int) × (Nat→Int))) (hg:zXJ N g m t=true):LFT Tf 39 (orl0 N g b m) (N + 10) [] [0,1,1,0,1,0,0,1,0,1,1,1,1] K (N + 10) (hl2 N g b m t.1 t.2.1 t.2.2.1 t.2.2.2)=kxl2 N g b m K (qGK N g m t):=by
 refine (wll2 K N g b m (N + 10) t).trans ?_;unfold zXJ at hg;unfold qGK;cases h:qG (dcl2 g m) (N + 10) t with
 | none=>rw [h] at hg; cases hg
 | some y=>rfl
noncomputable def lil2 (N:Nat) (g:Gr) (b m:Int):List (List Nat × yV):=[([0,1,1,0,1,0,0,1,0,1,1,1,1],sumF (fun t:(Int × Bool × (Nat→Int) × (Nat→Int))=>(hl2 N g b m t.1 t.2.1 t.2.2.1 t.2.2.2)) (fun σ=>(slI σ 10,slB σ 9,rgI σ 18 0,rgI σ 18 1)) (fun t K=>(bif zXJ N g m t then kxl2 N g b m K (qGK N g m t) else none)))]
theorem okl2 (N:Nat) (g:Gr) (b m:Int):∀ p S,qY (lil2 N g b m) p=some S→kX (N + 10) (cxS Tf (orl0 N g b m) (N + 10) 39 (ntmF Tf 39)) (qZ Tf 39 p) S:=fun p S hp=>by
 refine qX (L:=qZ Tf 39) (l:=(lil2 N g b m)) (show AllP _ (lil2 N g b m) from ⟨?_,trivial⟩) p S hp;dsimp only;refine jQ (T:=Tf) (o:=(orl0 N g b m)) (f:=39) (LO:=qY []) (p:=[0,1,1,0,1,0,0,1,0,1,1,1,1]) jU ?_;intro t K r hr;obtain ⟨hg,hr⟩:=qQ hr
 skip
 exact (lwl2 K N g b m t hg).trans hr
noncomputable def hl1 (N:Nat) (g:Gr) (b m:Int) (ag:Bool) (oc:Nat→Int) (oe:Nat→Int):St:=⟨[(2,.v (.n .i64 m)),(3,.p 3 0),(7,.o 18),(9,.v (.b (ag)))],[(3,.blk [.v (.lf g.np g.pt),.v (.lf g.ne (fE g.ed))]),(18,.reg 88 2 (.fo (g.np:Int).toNat (fun v=>[.n .i64 (oc v),.n .i64 (oe v)])))]⟩
set_option maxRecDepth 100000 in
theorem rdl1 (G:St→Option (Ret × Mem)) (K:Cont) (N:Nat) (g:Gr) (b m:Int) (ag:Bool) (oc:Nat→Int) (oe:Nat→Int):stpT Tf 39 (orl0 N g b m) (N + 10) (lil2 N g b m) [0,1,0,1,1,1,1] K G (hl1 N g b m ag oc oe) =
 (bif ag then (bif (gSt (hl2 N g b m 0 false (fun v=>(oc v)) (fun v=>(oe v))) (hl2 N g b m 0 false (fun v=>(oc v)) (fun v=>(oe v)))) then (bif (zXJ N g m (0,false,(fun v=>(oc v)),(fun v=>(oe v)))) then (bif (Nat.beq (qGK N g m (0,false,(fun v=>(oc v)),(fun v=>(oe v)))).1 0) then (G (hl1 N g b m (qGK N g m (0,false,(fun v=>(oc v)),(fun v=>(oe v)))).2.2.1 (fun v=>((qGK N g m (0,false,(fun v=>(oc v)),(fun v=>(oe v)))).2.2.2.1 v)) (fun v=>((qGK N g m (0,false,(fun v=>(oc v)),(fun v=>(oe v)))).2.2.2.2 v))))
 else none)
 else none)
 else none)
 else (K (.exit 2) ⟨[(7,.o 18)],[(18,.reg 88 2 (.fo (g.np:Int).toNat (fun v=>[.n .i64 (oc v),.n .i64 (oe v)])))]⟩)):=by kernel_rfl
noncomputable def dcl1 (N:Nat) (g:Gr) (b m:Int):(Bool × (Nat→Int) × (Nat→Int))→(Bool × (Nat→Int) × (Nat→Int)) ⊕ (Nat × Bool × (Nat→Int) × (Nat→Int)):=fun t=>match t with | (ag,oc,oe)=>(bif ag then (bif (gSt (hl2 N g b m 0 false (fun v=>(oc v)) (fun v=>(oe v))) (hl2 N g b m 0 false (fun v=>(oc v)) (fun v=>(oe v)))) then (bif (zXJ N g m (0,false,(fun v=>(oc v)),(fun v=>(oe v)))) then (bif (Nat.beq (qGK N g m (0,false,(fun v=>(oc v)),(fun v=>(oe v)))).1 0) then (.inl ((qGK N g m (0,false,(fun v=>(oc v)),(fun v=>(oe v)))).2.2.1,(fun v=>((qGK N g m (0,false,(fun v=>(oc v)),(fun v=>(oe v)))).2.2.2.1 v)),(fun v=>((qGK N g m (0,false,(fun v=>(oc v)),(fun v=>(oe v)))).2.2.2.2 v)))) else (.inr (1,(ag,oc,oe)))) else (.inr (1,(ag,oc,oe)))) else (.inr (1,(ag,oc,oe)))) else (.inr (0,(ag,oc,oe))))
noncomputable def kxl1 (N:Nat) (g:Gr) (b m:Int) (K:Cont) (w9:Nat × Bool × (Nat→Int) × (Nat→Int)):Option (Ret × Mem):=bif Nat.beq w9.1 0 then (K (.exit 2) ⟨[(7,.o 18)],[(18,.reg 88 2 (.fo (g.np:Int).toNat (fun v=>[.n .i64 (w9.2.2.1 v),.n .i64 (w9.2.2.2 v)])))]⟩) else none
theorem wll1 (K:Cont) (N:Nat) (g:Gr) (b m:Int):∀ n9 (t:(Bool × (Nat→Int) × (Nat→Int))),LFT Tf 39 (orl0 N g b m) (N + 10) (lil2 N g b m) [0,1,0,1,1,1,1] K n9 (hl1 N g b m t.1 t.2.1 t.2.2)=(qG (dcl1 N g b m) n9 t).bind (kxl1 N g b m K):=fun n9 t=>by
 refine qYG (L:=LFT Tf 39 (orl0 N g b m) (N + 10) (lil2 N g b m) [0,1,0,1,1,1,1] K) (stp:=stpT Tf 39 (orl0 N g b m) (N + 10) (lil2 N g b m) [0,1,0,1,1,1,1] K) (fun _ _=>rfl) (fun _=>rfl) (fun t=>hl1 N g b m t.1 t.2.1 t.2.2) (fun _=>True) (dcl1 N g b m) (kxl1 N g b m K) (fun G t _ => ?_) (fun _ _ _ _=>trivial) n9 t trivial;obtain ⟨ag,oc,oe⟩:=t;refine (rdl1 G K N g b m ag oc oe).trans ?_;dsimp only [dcl1];cases ag
 ·rfl
 ·cases (gSt (hl2 N g b m 0 false (fun v=>(oc v)) (fun v=>(oe v))) (hl2 N g b m 0 false (fun v=>(oc v)) (fun v=>(oe v))))
  ·rfl
  ·cases (zXJ N g m (0,false,(fun v=>(oc v)),(fun v=>(oe v))))
   ·rfl
   ·cases (Nat.beq (qGK N g m (0,false,(fun v=>(oc v)),(fun v=>(oe v)))).1 0)
    ·rfl
    ·rfl
noncomputable def zWH (N:Nat) (g:Gr) (b m:Int) (t:(Bool × (Nat→Int) × (Nat→Int))):Bool:=(qG (dcl1 N g b m) (N + 10) t).isSome
noncomputable def zYB (N:Nat) (g:Gr) (b m:Int) (t:(Bool × (Nat→Int) × (Nat→Int))):Nat × Bool × (Nat→Int) × (Nat→Int):=(qG (dcl1 N g b m) (N + 10) t).getD (99,t)
theorem lwl1 (K:Cont) (N:Nat) (g:Gr) (b m:Int) (t:(Bool × (Nat→Int) × (Nat→Int))) (hg:zWH N g b m t=true):LFT Tf 39 (orl0 N g b m) (N + 10) (lil2 N g b m) [0,1,0,1,1,1,1] K (N + 10) (hl1 N g b m t.1 t.2.1 t.2.2)=kxl1 N g b m K (zYB N g b m t):=by
 refine (wll1 K N g b m (N + 10) t).trans ?_;unfold zWH at hg;unfold zYB;cases h:qG (dcl1 N g b m) (N + 10) t with
 | none=>rw [h] at hg; cases hg
 | some y=>rfl
end Go.Proofs.YtklmegnpfhiibaaGreat.Yb
namespace Go.Proofs.YtklmegnpfhiibaaGreat.Yc
open Go.Rx Rt Go.Sx Go.RowKit Ba Bb Bc Bn Ya Yb
abbrev Lbl:=Bool × (Nat→Int) × (Nat→Int)
def rlx (s:Lbl) (x y:Nat) (c:Int):Lbl:=bif decide (s.2.1 x < 0) then s else bif lsB (s.2.1 x + c) (s.2.2 x + 1) (s.2.1 y) (s.2.2 y) then (true,setF s.2.1 y (s.2.1 x + c),setF s.2.2 y (s.2.2 x + 1)) else s
def nxB (g:Gr) (m:Int) (i:Nat) (s:Lbl):Lbl:=bif usB (g.ed i).s m then rlx (rlx s (g.ed i).u.toNat (g.ed i).v.toNat (g.ed i).c) (g.ed i).v.toNat (g.ed i).u.toNat (g.ed i).c else s
def LbS (np:Nat) (oc oe:Nat→Int) (k:Int):Prop:=∀ v,v < np → -1≤oc v∧oc v≤k * 1099511627776∧0≤oe v∧oe v≤k
theorem dcl2_step {g:Gr} {m:Int} (h:wfB g=true) {i:Nat} (hi:i < g.ne) (_:g.ne≤8192) {ag:Bool} {oc oe:Nat→Int} {k:Int} (_:k≤4000000) (hs:LbS g.np oc oe k):dcl2 g m ((i:Int),ag,oc,oe)=.inl (((i + 1:Nat):Int),nxB g m i (ag,oc,oe)):=by
 obtain ⟨e1,e2,e3,e4,e5⟩:=qXU h hi;have hU:inB (g.ed i).u g.np=true:=qHD (y:=(g.ed i).u.toNat) (by omega) (by omega);have hV:inB (g.ed i).v g.np=true:=qHD (y:=(g.ed i).v.toNat) (by omega) (by omega);obtain ⟨u1,u2,u3,u4⟩:=hs (g.ed i).u.toNat (by omega);obtain ⟨v1,v2,v3,v4⟩:=hs (g.ed i).v.toNat (by omega);have hne:(g.ed i).u.toNat ≠ (g.ed i).v.toNat:=by omega
 have w1:vYW .i64 (oc (g.ed i).u.toNat + (g.ed i).c)=oc (g.ed i).u.toNat + (g.ed i).c:=zV (by omega);have w2:vYW .i64 (oe (g.ed i).u.toNat + 1)=oe (g.ed i).u.toNat + 1:=zV (by omega);have w3:vYW .i64 (oc (g.ed i).v.toNat + (g.ed i).c)=oc (g.ed i).v.toNat + (g.ed i).c:=zV (by omega);have w4:vYW .i64 (oe (g.ed i).v.toNat + 1)=oe (g.ed i).v.toNat + 1:=zV (by omega);have w5:vYW .i64 (oc (g.ed i).u.toNat + (g.ed i).c + (g.ed i).c)=oc (g.ed i).u.toNat + (g.ed i).c + (g.ed i).c:=zV (by omega);have w6:vYW .i64 (oe (g.ed i).u.toNat + 1 + 1)=oe (g.ed i).u.toNat + 1 + 1:=zV (by omega);have hb:Nat.beq (g.ed i).u.toNat (g.ed i).v.toNat=false:=by rw [qJH,vYJ hne]
 dsimp only [dcl2];unfold nxB rlx;simp only [toN,vYK (show (i:Int) < (g.ne:Int) by omega),zU hi,jV (C:=cru) (t:=_) trivial,jV (C:=cls) (t:=_) trivial,jG (show i < 1000000 by omega),hU,hV,w1,w2,w3,w4,w5,w6,hb,Nat.beq_refl,vYZ,vYY];cases usB (g.ed i).s m with
 | false=>rfl
 | true =>
  simp only [vYZ];cases h1:decide (oc (g.ed i).u.toNat < 0) with
  | true =>
   simp only [vYZ];cases h2:decide (oc (g.ed i).v.toNat < 0) <;> simp only [vYZ,vYY]
   cases h3:lsB (oc (g.ed i).v.toNat + (g.ed i).c) (oe (g.ed i).v.toNat + 1) (oc (g.ed i).u.toNat) (oe (g.ed i).u.toNat) <;> rfl
  | false =>
   simp only [vYY];cases h4:lsB (oc (g.ed i).u.toNat + (g.ed i).c) (oe (g.ed i).u.toNat + 1) (oc (g.ed i).v.toNat) (oe (g.ed i).v.toNat) with
   | false =>
    simp only [vYY];cases h2:decide (oc (g.ed i).v.toNat < 0) <;> simp only [vYZ,vYY]
    cases h3:lsB (oc (g.ed i).v.toNat + (g.ed i).c) (oe (g.ed i).v.toNat + 1) (oc (g.ed i).u.toNat) (oe (g.ed i).u.toNat) <;> rfl
   | true =>
    simp only [vYZ,qWJ,qKH hne];cases h2:decide (oc (g.ed i).u.toNat + (g.ed i).c < 0) <;> simp only [vYZ,vYY]
    ·cases h3:lsB (oc (g.ed i).u.toNat + (g.ed i).c + (g.ed i).c) (oe (g.ed i).u.toNat + 1 + 1) (oc (g.ed i).u.toNat) (oe (g.ed i).u.toNat) <;> rfl
    ·rfl
theorem dcl2_end {g:Gr} {m:Int} {s:Lbl}:dcl2 g m ((g.ne:Int),s)=.inr (0,(g.ne:Int),s):=by
 obtain ⟨ag,oc,oe⟩:=s;dsimp only [dcl2];rw [vYJ (by omega)]; rfl
def leL (a b c d:Int):Prop:=c < 0 ∨ (0≤a∧leR a b c d)
theorem leL.refl (a b:Int):leL a b a b:=by unfold leL leR; omega
theorem leL.trans {a b c d e f:Int} (_:leL a b c d) (_:leL c d e f):leL a b e f:=by unfold leL leR at *; omega
theorem leL.add {a b c d k:Int} (_:0≤k) (_:0≤c) (_:leL a b c d):leL (a + k) (b + 1) (c + k) (d + 1):=by unfold leL leR at *; omega
theorem ls_t {a b c d:Int} (_:0≤a) (h:lsB a b c d=true):leL a b c d∧¬ leL c d a b:=by
 unfold lsB at h;by_cases hc:c < 0
 ·exact ⟨.inl hc,by unfold leL; omega⟩
 ·rw [vYJ hc,vYJ (show ¬ a < 0 by omega)] at h;simp only [Bool.or_self,vYY,Bool.or_eq_true,vQJ,decide_eq_true_eq] at h;unfold leL leR; omega
theorem ls_f {a b c d:Int} (ha:0≤a) (h:lsB a b c d=false):leL c d a b:=by
 unfold lsB at h;by_cases hc:c < 0
 ·rw [vYK hc,vYK ha] at h; simp at h
 ·rw [vYJ hc,vYJ (show ¬ a < 0 by omega)] at h;simp only [Bool.or_self,vYY,Bool.or_eq_false_iff,Bool.and_eq_false_imp,decide_eq_true_eq,decide_eq_false_iff_not] at h;unfold leL leR; omega
section
variable {g:Gr} {m:Int} {b:Nat}
theorem WkG.edge {x y:Nat} {c p k:Int} (h:WkG g m b x c p) (hx:x < g.np) (hj:Jn g m g.ne x (y:Int) k):WkG g m b y (c + k) (p + 1):=by
 obtain ⟨w,h1,h2,h3⟩:=((zKD g m).2 x (y:Int) k).2 hj;rw [← h3];exact .cons h hx h1 h2
structure LbW (g:Gr) (m:Int) (b:Nat) (oc oe:Nat→Int):Prop where
 wk:∀ v,v < g.np→oc v < 0 ∨ WkG g m b v (oc v) (oe v + 1)
 src:oc b=0∧oe b=0
theorem LbW.bd (hw:wfB g=true) (hp:g.np≤100) (_:g.ne≤500) {oc oe:Nat→Int} (h:LbW g m b oc oe) {v:Nat} (hv:v < g.np) (_:0≤oc v):0≤oe v:=by
 rcases h.wk v hv with h1 | h1
 ·omega
 ·have:=h1.bd (zKC hw hp); omega
theorem zJL (hw:wfB g=true) (hp:g.np≤100) (hn:g.ne≤500) {s:Lbl} {x y:Nat} {c:Int} (hx:x < g.np) (_:0≤c) (hj:Jn g m g.ne x (y:Int) c) (h:LbW g m b s.2.1 s.2.2) :
  LbW g m b (rlx s x y c).2.1 (rlx s x y c).2.2∧(∀ v,leL ((rlx s x y c).2.1 v) ((rlx s x y c).2.2 v) (s.2.1 v) (s.2.2 v))∧(0≤s.2.1 x→leL ((rlx s x y c).2.1 y) ((rlx s x y c).2.2 y) (s.2.1 x + c) (s.2.2 x + 1))∧(rlx s x y c=s ∨ ((rlx s x y c).1=true∧0≤s.2.1 x∧¬ leL (s.2.1 y) (s.2.2 y) (s.2.1 x + c) (s.2.2 x + 1))):=by
 unfold rlx;cases h0:decide (s.2.1 x < 0) with
 | true =>
  have h0:=vYU h0;simp only [vYZ];exact ⟨h,fun v=>leL.refl _ _,fun h1=>by omega,.inl trivial⟩
 | false =>
  have h0:=vYX h0;have ho:=h.bd hw hp hn hx (by omega);simp only [vYY];cases hb:lsB (s.2.1 x + c) (s.2.2 x + 1) (s.2.1 y) (s.2.2 y) with
  | false =>
   simp only [vYY];exact ⟨h,fun v=>leL.refl _ _,fun h1=>ls_f (by omega) hb,.inl trivial⟩
  | true =>
   simp only [vYZ];obtain ⟨q1,q2⟩:=ls_t (by omega) hb;refine ⟨⟨fun v hv => ?_,?_⟩,fun v => ?_,fun _ => ?_,.inr ⟨trivial,by omega,q2⟩⟩
   ·by_cases e:v=y
    ·subst e;rw [qWJ,qWJ];rcases h.wk x hx with h1 | h1
     ·omega
     ·exact .inr (WkG.edge h1 hx hj)
    ·rw [qKH e,qKH e]; exact h.wk v hv
   ·have e:b ≠ y:=fun e=>by
     subst e;rw [h.src.1,h.src.2] at q2;exact q2 (.inr ⟨by omega,by unfold leR; omega⟩)
    rw [qKH e,qKH e]; exact h.src
   ·by_cases e:v=y
    ·subst e; rw [qWJ,qWJ]; exact q1
    ·rw [qKH e,qKH e]; exact leL.refl _ _
   ·rw [qWJ,qWJ]; exact leL.refl _ _
theorem rlx_small {np:Nat} {s:Lbl} {x y:Nat} {c k:Int} (hx:x < np) (_:0≤c) (_:c≤1099511627776) (_:0≤k) (h:LbS np s.2.1 s.2.2 k):LbS np (rlx s x y c).2.1 (rlx s x y c).2.2 (k + 1):=by
 have up:LbS np s.2.1 s.2.2 (k + 1):=fun v hv=>by have:=h v hv; omega
 have hxs:=h x hx;unfold rlx;cases h0:decide (s.2.1 x < 0) with
 | true=>exact up
 | false =>
  simp only [vYY];cases hb:lsB (s.2.1 x + c) (s.2.2 x + 1) (s.2.1 y) (s.2.2 y) with
  | false=>exact up
  | true =>
   simp only [vYZ];intro v hv;by_cases e:v=y
   ·subst e; rw [qWJ,qWJ]; omega
   ·rw [qKH e,qKH e]; exact up v hv
structure RI (g:Gr) (m:Int) (b i:Nat) (k0:Int) (c0 e0:Nat→Int) (s:Lbl):Prop where
 w:LbW g m b s.2.1 s.2.2
 le:∀ v,leL (s.2.1 v) (s.2.2 v) (c0 v) (e0 v)
 ed:∀ x y c,Jn g m i x ((y:Nat):Int) c→0≤c0 x→leL (s.2.1 y) (s.2.2 y) (c0 x + c) (e0 x + 1)
 ag:s.1=false→s=(false,c0,e0)
 sm:LbS g.np s.2.1 s.2.2 (k0 + 2 * i)
theorem RI.next (hw:wfB g=true) (hp:g.np≤100) (hn:g.ne≤500) {i:Nat} {k0:Int} (_:0≤k0) {c0 e0:Nat→Int} {s:Lbl} (hi:i < g.ne) (h:RI g m b i k0 c0 e0 s):RI g m b (i + 1) k0 c0 e0 (nxB g m i s):=by
 obtain ⟨e1,e2,e3,e4,e5⟩:=qXU hw hi;unfold nxB;cases hu:usB (g.ed i).s m with
 | false =>
  simp only [vYY];refine ⟨h.w,h.le,fun x y c ⟨e,q1,q2,q3⟩=>h.ed x y c ⟨e,?_,q2,q3⟩,h.ag,fun v hv=>by have:=h.sm v hv; omega⟩;by_cases ei:e=i
  ·subst ei; rw [hu] at q2; cases q2
  ·omega
 | true =>
  simp only [vYZ];have hU:(g.ed i).u.toNat < g.np:=by omega
  have hV:(g.ed i).v.toNat < g.np:=by omega
  have j1:Jn g m g.ne (g.ed i).u.toNat ((g.ed i).v.toNat:Int) (g.ed i).c:=⟨i,hi,hu,rfl,.inl ⟨rfl,by omega⟩⟩
  have j2:Jn g m g.ne (g.ed i).v.toNat ((g.ed i).u.toNat:Int) (g.ed i).c:=⟨i,hi,hu,rfl,.inr ⟨rfl,by omega⟩⟩
  obtain ⟨a1,a2,a3,a4⟩:=zJL hw hp hn (s:=s) hU e4 j1 h.w;obtain ⟨b1,b2,b3,b4⟩:=zJL hw hp hn (s:=rlx s (g.ed i).u.toNat (g.ed i).v.toNat (g.ed i).c) hV e4 j2 a1;have s1:=rlx_small (y:=(g.ed i).v.toNat) hU e4 e5 (show (0:Int)≤k0 + 2 * i by omega) h.sm;have s2:=rlx_small (y:=(g.ed i).u.toNat) hV e4 e5 (show (0:Int)≤k0 + 2 * i + 1 by omega) s1;refine ⟨b1,fun v=>(b2 v).trans ((a2 v).trans (h.le v)),fun x y c ⟨e,q1,q2,q3,q4⟩ h0 => ?_,fun hf => ?_,fun v hv=>by have:=s2 v hv; omega⟩
  ·by_cases ei:e=i
   ·subst ei;rcases q4 with ⟨r1,r2⟩ | ⟨r1,r2⟩
    ·obtain rfl:y=(g.ed e).v.toNat:=by omega
     subst r1;rw [← q3];have hx:=h.le (g.ed e).u.toNat;have h1:0≤s.2.1 (g.ed e).u.toNat:=by unfold leL at hx; omega
     exact (b2 _).trans ((a3 h1).trans (hx.add e4 h0))
    ·obtain rfl:y=(g.ed e).u.toNat:=by omega
     subst r1;rw [← q3];have hx:=(a2 (g.ed e).v.toNat).trans (h.le (g.ed e).v.toNat);have h1:0≤(rlx s (g.ed e).u.toNat (g.ed e).v.toNat (g.ed e).c).2.1 (g.ed e).v.toNat:=by unfold leL at hx; omega
     exact (b3 h1).trans (hx.add e4 h0)
   ·exact ((b2 _).trans (a2 _)).trans (h.ed x y c ⟨e,by omega,q2,q3,q4⟩ h0)
  ·rcases b4 with e | e
   ·rw [e] at hf ⊢;rcases a4 with e' | e'
    ·rw [e'] at hf ⊢; exact h.ag hf
    ·rw [e'.1] at hf; cases hf
   ·rw [e.1] at hf; cases hf
end
section
variable {g:Gr} {m:Int} {b:Nat}
def KLb (g:Gr) (m:Int) (b:Nat) (oc oe:Nat→Int) (k:Int):Prop:=∀ v c p,WkG g m b v c p→p≤k + 1→leL (oc v) (oe v) c (p - 1)
def BLb (g:Gr) (m:Int) (b:Nat) (oc oe:Nat→Int):Prop:=∀ v c p,WkG g m b v c p→leL (oc v) (oe v) c (p - 1)
theorem zHC {x w:Nat} (hw:w < (lkO g m).1 x) {y:Nat} (hy:(lkO g m).2.1 x w=(y:Int)):Jn g m g.ne x (y:Int) ((lkO g m).2.2 x w):=((zKD g m).2 x (y:Int) _).1 ⟨w,hw,hy,rfl⟩
theorem KLb.best (hw:wfB g=true) (hp:g.np≤100) (_:g.ne≤500) (hb:b < g.np) {oc oe:Nat→Int} {k:Int} (_:100≤k) (h:KLb g m b oc oe k):BLb g m b oc oe:=fun v c p hv=>by
 have hl:=zKC (m:=m) hw hp;have hvn:=Wk.ltn hl hb hv;rcases bestW (m:=m) hw hp hb with h1 | ⟨c0,p0,h1,h2,h3⟩
 ·exact absurd hv (h1 c p)
 ·have:=h v c0 p0 h1 (by omega)
  have h4:=h3 c p hv;have hbd:=hv.bd hl;have hbd0:=h1.bd hl;exact this.trans (by unfold leL leR at *; omega)
theorem RI.step (hw:wfB g=true) (hp:g.np≤100) (_:g.ne≤500) {k0:Int} {c0 e0:Nat→Int} {s:Lbl} {k:Int} (h:RI g m b g.ne k0 c0 e0 s) (hk:KLb g m b c0 e0 k):KLb g m b s.2.1 s.2.2 (k + 1):=fun v c p hv hpk=>by
 have hl:=zKC (m:=m) hw hp;cases hv with
 | nil=>rw [h.w.src.1,h.w.src.2]; exact leL.refl _ _
 | @cons x y w c p hv hx hwl hy =>
  have hc:=hl.hco _ _ hx hwl;have hbd:=hv.bd hl;have h1:=hk x c p hv (by omega);have h2:=h.ed x v _ (zHC hwl hy) (by unfold leL at h1; omega);have h3:=leL.add hc.1 hbd.1 h1;rw [show p - 1 + 1=p + 1 - 1 by omega] at h3;exact h2.trans h3
theorem RI.stable (hw:wfB g=true) (hp:g.np≤100) (_:g.ne≤500) {k0:Int} {c0 e0:Nat→Int} (h:RI g m b g.ne k0 c0 e0 (false,c0,e0)):BLb g m b c0 e0:=fun v c p hv=>by
 have hl:=zKC (m:=m) hw hp;induction hv with
 | nil=>rw [show c0 b=0 from h.w.src.1,show e0 b=0 from h.w.src.2]; exact leL.refl _ _
 | @cons x y w c p hv hx hwl hy ih =>
  have hc:=hl.hco _ _ hx hwl;have hbd:=hv.bd hl;have h2:=h.ed x y _ (zHC hwl hy) (by unfold leL at ih; omega);have h3:=leL.add hc.1 hbd.1 ih;rw [show p - 1 + 1=p + 1 - 1 by omega] at h3;exact h2.trans h3
theorem rlx_stay (hw:wfB g=true) (hp:g.np≤100) (hn:g.ne≤500) {oc oe:Nat→Int} (h:LbW g m b oc oe) (hb:BLb g m b oc oe) {x y:Nat} {c:Int} (hx:x < g.np) (hc:0≤c) (hj:Jn g m g.ne x (y:Int) c):rlx (false,oc,oe) x y c=(false,oc,oe):=by
 obtain ⟨_,_,_,h4⟩:=zJL hw hp hn (s:=(false,oc,oe)) hx hc hj h;rcases h4 with h4 | ⟨_,h5,h6⟩
 ·exact h4
 ·exfalso;rcases h.wk x hx with h7 | h7
  ·have:(0:Int)≤oc x:=h5
   omega
  ·have:=hb y _ _ (WkG.edge h7 hx hj)
   rw [show oe x + 1 + 1 - 1=oe x + 1 by omega] at this;exact h6 this
theorem nxB_stay (hw:wfB g=true) (hp:g.np≤100) (hn:g.ne≤500) {oc oe:Nat→Int} (h:LbW g m b oc oe) (hb:BLb g m b oc oe) {i:Nat} (hi:i < g.ne):nxB g m i (false,oc,oe)=(false,oc,oe):=by
 obtain ⟨e1,e2,e3,e4,e5⟩:=qXU hw hi;unfold nxB;cases hu:usB (g.ed i).s m with
 | false=>rfl
 | true =>
  simp only [vYZ];rw [rlx_stay hw hp hn h hb (by omega) e4 ⟨i,hi,hu,rfl,.inl ⟨rfl,by omega⟩⟩,rlx_stay hw hp hn h hb (by omega) e4 ⟨i,hi,hu,rfl,.inr ⟨rfl,by omega⟩⟩]
theorem it_l2 (hw:wfB g=true) (hp:g.np≤100) (hn:g.ne≤500) {k0:Int} (hk:0≤k0) (_:k0≤1000000) {c0 e0:Nat→Int} (h:LbW g m b c0 e0) (hs:LbS g.np c0 e0 k0) {N:Nat} (hN:g.ne < N) :
  qG (dcl2 g m) N (0,false,c0,e0)=some (0,(g.ne:Int),qQL (nxB g m) g.ne 0 (false,c0,e0))∧RI g m b g.ne k0 c0 e0 (qQL (nxB g m) g.ne 0 (false,c0,e0)):=by
 have hR:RI g m b 0 k0 c0 e0 (false,c0,e0):=⟨h,fun v=>leL.refl _ _,fun x y c ⟨e,h,_⟩=>absurd h (Nat.not_lt_zero e),fun _=>rfl,fun v hv=>by
  have:=hs v hv
  show -1≤c0 v∧c0 v≤(k0 + 2 * ((0:Nat):Int)) * 1099511627776∧0≤e0 v∧e0 v≤k0 + 2 * ((0:Nat):Int)
  omega⟩
 refine ⟨qXH (dec:=dcl2 g m) (nx:=nxB g m) (Q:=fun (i:Nat) (s:Lbl)=>RI g m b i k0 c0 e0 s) (out:=fun s=>((g.ne:Int),s)) (c:=g.ne) (fun i s hi hq=>dcl2_step hw hi (by omega) (show k0 + 2 * (i:Int)≤4000000 by omega) hq.sm) (fun i s hi hq=>hq.next hw hp hn hk hi) (fun s _=>dcl2_end) g.ne 0 N _ (by omega) hN hR,?_⟩;exact qZX (Q:=fun (i:Nat) (s:Lbl)=>RI g m b i k0 c0 e0 s) (c:=g.ne) (nx:=nxB g m) (fun i s hi hq=>hq.next hw hp hn hk hi) g.ne 0 _ (by omega) hR
theorem dcl1_go {N:Nat} {B:Int} {oc oe:Nat→Int} {j:Int} {s:Lbl} (h:qG (dcl2 g m) (N + 10) (0,false,oc,oe)=some (0,j,s)):dcl1 N g B m (true,oc,oe)=.inl s:=by
 have ho:qGK N g m (0,false,(fun v=>(oc v)),(fun v=>(oe v)))=(0,j,s):=by
  unfold qGK;show (qG (dcl2 g m) (N + 10) (0,false,oc,oe)).getD _=_;rw [h]; rfl
 have hk:zXJ N g m (0,false,(fun v=>(oc v)),(fun v=>(oe v)))=true:=by
  unfold zXJ;show (qG (dcl2 g m) (N + 10) (0,false,oc,oe)).isSome=_;rw [h]; rfl
 dsimp only [dcl1];rw [zW,ho,hk]; rfl
theorem dcl1_out {N:Nat} {B:Int} {oc oe:Nat→Int}:dcl1 N g B m (false,oc,oe)=.inr (0,false,oc,oe):=rfl
theorem it_l1 (hw:wfB g=true) (hp:g.np≤100) (hn:g.ne≤500) (hb:b < g.np) {N:Nat} (hN:g.ne < N + 10) (B:Int):∀ (j k M:Nat) (oc oe:Nat→Int),j + k=101→j + 2 < M→LbW g m b oc oe→LbS g.np oc oe (1000 * (k:Int))→KLb g m b oc oe (k:Int) →
  ∃ oc' oe',qG (dcl1 N g B m) M (true,oc,oe)=some (0,false,oc',oe')∧LbW g m b oc' oe'∧BLb g m b oc' oe'
 | j,k,0,oc,oe,hj,hM,h,hs,hk=>by omega
 | j,k,M + 1,oc,oe,hj,hM,h,hs,hk=>by
  obtain ⟨h1,h2⟩:=it_l2 hw hp hn (show (0:Int)≤1000 * (k:Int) by omega) (by omega) h hs hN;rw [qG,dcl1_go h1];cases hs1:(qQL (nxB g m) g.ne 0 (false,oc,oe)).1 with
  | false =>
   have e:=h2.ag hs1;rw [e] at h2 ⊢;obtain ⟨M,rfl⟩:∃ K,M=K + 1:=⟨M - 1,by omega⟩
   exact ⟨oc,oe,by simp only [qG,dcl1_out],h,RI.stable hw hp hn h2⟩
  | true =>
   by_cases h101:100≤k
   ·exfalso;have hbst:=KLb.best hw hp hn hb (show (100:Int)≤(k:Int) by omega) hk
    have:qQL (nxB g m) g.ne 0 (false,oc,oe)=(false,oc,oe):=qZX (Q:=fun (_:Nat) (s:Lbl)=>s=(false,oc,oe)) (c:=g.ne) (nx:=nxB g m) (fun i s hi hq=>by rw [hq]; exact nxB_stay hw hp hn h hbst hi) g.ne 0 _ (by omega) rfl
    rw [this] at hs1; cases hs1
   ·generalize qQL (nxB g m) g.ne 0 (false,oc,oe)=s at *;obtain ⟨ag,oc',oe'⟩:=s;dsimp only at hs1;subst hs1;exact it_l1 hw hp hn hb hN B (j - 1) (k + 1) M oc' oe' (by omega) (by omega) h2.w (fun v hv=>by have:=h2.sm v hv; dsimp only at this; omega) (by
     have:=RI.step hw hp hn h2 hk
     rw [show ((k + 1:Nat):Int)=(k:Int) + 1 by omega];exact this)
end
end Go.Proofs.YtklmegnpfhiibaaGreat.Yc

/- Part 10 of the texts behind the last one: rules and contracts. No condition. -/
import Derived.Test.YtglkkhpdbfacfaaBE9
open Bool renaming and_eq_true → vQJ, true_and → vZW
open Go.IntKind renaming wrap → vYX
namespace Go.Proofs.Ytglkkhpdbfacfaa.Bf
open Go.Rx Rt Go.Sx Go.RowKit Ba Bb Bc Bd Be
def q3 (c p x:Nat→Int):Nat→List PV:=fun v=>[.n .i64 (c v),.n .i64 (p v),.n .i64 (x v)]
def unq (k:Nat) (f:Nat→List PV):Nat→Int:=fun v=>match (f v)[k]? with
 | some (.n _ i)=>i
 | _=>0
abbrev Tri:=(Nat→Int) × (Nat→Int) × (Nat→Int)
noncomputable def puT (n:Nat) (c p x:Nat→Int) (ec ep ex:Int):Tri:=(qWI (n + 2) n ((n:Int),(fun v=>(bif (Nat.beq v n) then ec else (c v))),(fun v=>(bif (Nat.beq v n) then ep else (p v))),(fun v=>(bif (Nat.beq v n) then ex else (x v))))).2.2
noncomputable def poT (n:Nat) (c p x:Nat→Int):Tri:=(qWL (n + 2) n (((0:Nat):Int),(fun v=>(bif (Nat.beq v 0) then (c (n - 1)) else (c v))),(fun v=>(bif (Nat.beq v 0) then (p (n - 1)) else (p v))),(fun v=>(bif (Nat.beq v 0) then (x (n - 1)) else (x v))))).2.2
structure QOk (n:Nat) (c p:Nat→Int):Prop where
 le:n≤1000000
 heap:Heap n c p
 pos:PosQ n p
theorem zGQ {n:Nat} {c p x:Nat→Int} {ec ep ex:Int} (h:QOk n c p) (hn:n + 1≤1000000) (he:0 < ep):zWZ (n + 2) n ((n:Int),(fun v=>(bif (Nat.beq v n) then ec else (c v))),(fun v=>(bif (Nat.beq v n) then ep else (p v))),(fun v=>(bif (Nat.beq v n) then ex else (x v))))=true ∧
  (qWI (n + 2) n ((n:Int),(fun v=>(bif (Nat.beq v n) then ec else (c v))),(fun v=>(bif (Nat.beq v n) then ep else (p v))),(fun v=>(bif (Nat.beq v n) then ex else (x v))))).1=0 ∧
  QOk (n + 1) (puT n c p x ec ep ex).1 (puT n c p x ec ep ex).2.1∧(∀ k,k < n + 1→((puT n c p x ec ep ex).1 k=ec∧(puT n c p x ec ep ex).2.1 k=ep∧(puT n c p x ec ep ex).2.2 k=ex) ∨ ∃ j,j < n∧(puT n c p x ec ep ex).1 k=c j∧(puT n c p x ec ep ex).2.1 k=p j∧(puT n c p x ec ep ex).2.2 k=x j) ∧
  (∃ k,k < n + 1∧(puT n c p x ec ep ex).1 k=ec∧(puT n c p x ec ep ex).2.1 k=ep∧(puT n c p x ec ep ex).2.2 k=ex)∧SubQ n c p x (n + 1) (puT n c p x ec ep ex).1 (puT n c p x ec ep ex).2.1 (puT n c p x ec ep ex).2.2:=by
 have w:∀ (f:Nat→Int) (y:Int) (v:Nat),(bif Nat.beq v n then y else f v)=if v=n then y else f v:=fun f y v=>by
  rw [uH]; by_cases e:v=n
  ·rw [vYJ e,if_pos e]; rfl
  ·rw [vYY e,if_neg e]; rfl
 have hu:yHK (n + 1) (fun v=>(bif (Nat.beq v n) then ec else (c v))) (fun v=>(bif (Nat.beq v n) then ep else (p v))) n:=by
  refine ⟨fun k k0 kn ke => ?_,fun n0 k k0 kn kp=>by omega⟩;simp only [w];rw [if_neg ke,if_neg ke,if_neg (show ¬ (k - 1) / 2=n by omega),if_neg (show ¬ (k - 1) / 2=n by omega)];exact h.heap k k0 (by omega)
 have hpz:PosQ (n + 1) (fun v=>(bif (Nat.beq v n) then ep else (p v))):=fun k hk=>by
  simp only [w];by_cases e:k=n
  ·rw [if_pos e]; exact he
  ·rw [if_neg e]; exact h.pos k (by omega)
 obtain ⟨i',c',p',x',g1,g2,g3,g4,g5⟩:=kZJ (show n≤1000000 by omega) n (n + 2) _ _ (fun v=>(bif (Nat.beq v n) then ex else (x v))) (Nat.le_refl _) (by omega) hu hpz;have ho:qWI (n + 2) n ((n:Int),(fun v=>(bif (Nat.beq v n) then ec else (c v))),(fun v=>(bif (Nat.beq v n) then ep else (p v))),(fun v=>(bif (Nat.beq v n) then ex else (x v))))=(0,i',c',p',x'):=by unfold qWI; rw [g1]; rfl
 have ht:puT n c p x ec ep ex=(c',p',x'):=by unfold puT; rw [ho]
 rw [ho,ht];refine ⟨by unfold zWZ; rw [g1]; rfl,rfl,⟨hn,g2,g3⟩,fun k hk => ?_,?_,fun k hk => ?_⟩
 ·obtain ⟨j,hj,e1,e2,e3⟩:=g5 k hk;simp only [w] at e1 e2 e3;by_cases e:j=n
  ·rw [if_pos e] at e1 e2 e3; exact .inl ⟨e1,e2,e3⟩
  ·rw [if_neg e] at e1 e2 e3; exact .inr ⟨j,by omega,e1,e2,e3⟩
 ·obtain ⟨j,hj,e1,e2,e3⟩:=g4 n (by omega);simp only [w,if_true] at e1 e2 e3;exact ⟨j,hj,e1.symm,e2.symm,e3.symm⟩
 ·obtain ⟨j,hj,e1,e2,e3⟩:=g4 k (by omega);simp only [w,if_neg (show ¬ k=n by omega)] at e1 e2 e3;exact ⟨j,hj,e1,e2,e3⟩
theorem zZV {n:Nat} {c p x:Nat→Int} (h:QOk n c p) (h1:1≤n):zWJ (n + 2) n (((0:Nat):Int),(fun v=>(bif (Nat.beq v 0) then (c (n - 1)) else (c v))),(fun v=>(bif (Nat.beq v 0) then (p (n - 1)) else (p v))),(fun v=>(bif (Nat.beq v 0) then (x (n - 1)) else (x v))))=true ∧
  (qWL (n + 2) n (((0:Nat):Int),(fun v=>(bif (Nat.beq v 0) then (c (n - 1)) else (c v))),(fun v=>(bif (Nat.beq v 0) then (p (n - 1)) else (p v))),(fun v=>(bif (Nat.beq v 0) then (x (n - 1)) else (x v))))).1=0 ∧
  QOk (n - 1) (poT n c p x).1 (poT n c p x).2.1∧SubQ (n - 1) (poT n c p x).1 (poT n c p x).2.1 (poT n c p x).2.2 n c p x ∧
  (∀ k,k < n→k=0 ∨ ∃ j,j < n - 1∧c k=(poT n c p x).1 j∧p k=(poT n c p x).2.1 j∧x k=(poT n c p x).2.2 j):=by
 have w:∀ (f:Nat→Int) (v:Nat),(bif Nat.beq v 0 then f (n - 1) else f v)=if v=0 then f (n - 1) else f v:=fun f v=>by
  rw [uH]; by_cases e:v=0
  ·rw [vYJ e,if_pos e]; rfl
  ·rw [vYY e,if_neg e]; rfl
 have hu:yHU (n - 1) (fun v=>(bif (Nat.beq v 0) then (c (n - 1)) else (c v))) (fun v=>(bif (Nat.beq v 0) then (p (n - 1)) else (p v))) 0:=by
  refine ⟨fun k k0 kn ke => ?_,fun n0=>absurd n0 (by omega)⟩;simp only [w];rw [if_neg (show ¬ k=0 by omega),if_neg (show ¬ k=0 by omega),if_neg ke,if_neg ke];exact h.heap k k0 (by omega)
 have hpz:PosQ (n - 1) (fun v=>(bif (Nat.beq v 0) then (p (n - 1)) else (p v))):=fun k hk=>by
  simp only [w];by_cases e:k=0
  ·rw [if_pos e]; exact h.pos _ (by omega)
  ·rw [if_neg e]; exact h.pos k (by omega)
 obtain ⟨i',c',p',x',g1,g2,g3,g4,g5⟩:=kZU h1 h.le n 0 (n + 2) _ _ (fun v=>(bif (Nat.beq v 0) then (x (n - 1)) else (x v))) (by omega) (by omega) (by omega) hu hpz;have ho:qWL (n + 2) n (((0:Nat):Int),(fun v=>(bif (Nat.beq v 0) then (c (n - 1)) else (c v))),(fun v=>(bif (Nat.beq v 0) then (p (n - 1)) else (p v))),(fun v=>(bif (Nat.beq v 0) then (x (n - 1)) else (x v))))=(0,i',c',p',x'):=by unfold qWL; rw [g1]; rfl
 have ht:poT n c p x=(c',p',x'):=by unfold poT; rw [ho]
 rw [ho,ht];refine ⟨by unfold zWJ; rw [g1]; rfl,rfl,⟨by have:=h.le; omega,g2,g3⟩,fun k hk => ?_,fun k hk => ?_⟩
 ·obtain ⟨j,hj,e1,e2,e3⟩:=g5 k hk;simp only [w] at e1 e2 e3;by_cases e:j=0
  ·rw [if_pos e] at e1 e2 e3; exact ⟨n - 1,by omega,e1,e2,e3⟩
  ·rw [if_neg e] at e1 e2 e3; exact ⟨j,by omega,e1,e2,e3⟩
 ·by_cases e0:k=0
  ·exact .inl e0
  ·refine .inr ?_;by_cases e:k=n - 1
   ·obtain ⟨j,hj,e1,e2,e3⟩:=g4 0 (by omega);simp only [w,if_true] at e1 e2 e3;subst e;exact ⟨j,hj,e1,e2,e3⟩
   ·obtain ⟨j,hj,e1,e2,e3⟩:=g4 k (by omega);simp only [w,if_neg e0] at e1 e2 e3;exact ⟨j,hj,e1,e2,e3⟩
noncomputable def lspu (N n:Nat) (qc qp qx:Nat→Int) (ec ep ex:Int):List (List Nat × yK):=[([0,1,0,1,1],sumF (fun t:(Int × (Nat→Int) × (Nat→Int) × (Nat→Int))=>(hpu N n qc qp qx ec ep ex t.1 t.2.1 t.2.2.1 t.2.2.2)) (fun σ=>(slI σ 5,rgI σ 1000001 0,rgI σ 1000001 1,rgI σ 1000001 2)) (fun t K=>(bif zWZ N n t then kxpu N n qc qp qx ec ep ex K (qWI N n t) else none)))]
set_option maxRecDepth 100000 in
theorem pxpu (N n:Nat) (qc qp qx:Nat→Int) (ec ep ex:Int):zHE Tf (orpu N n qc qp qx ec ep ex) (qY (lspu N n qc qp qx ec ep ex)) N 66 [.p 1000000 0,.v (.a [.n .i64 ec,.n .i64 ep,.n .i64 ex])] [.gs 98 3 (.lf n (q3 qc qp qx))] =
 (bif (decide (n + 1≤1000000)) then (bif (gSt (hpu N n qc qp qx ec ep ex (vYX .i64 (((n + 1):Int) - 1)) (fun v=>(bif (Nat.beq v n) then ec else (qc v))) (fun v=>(bif (Nat.beq v n) then ep else (qp v))) (fun v=>(bif (Nat.beq v n) then ex else (qx v)))) (hpu N n qc qp qx ec ep ex (vYX .i64 (((n + 1):Int) - 1)) (fun v=>(bif (Nat.beq v n) then ec else (qc v))) (fun v=>(bif (Nat.beq v n) then ep else (qp v))) (fun v=>(bif (Nat.beq v n) then ex else (qx v))))) then (bif (zWZ N n ((vYX .i64 (((n + 1):Int) - 1)),(fun v=>(bif (Nat.beq v n) then ec else (qc v))),(fun v=>(bif (Nat.beq v n) then ep else (qp v))),(fun v=>(bif (Nat.beq v n) then ex else (qx v))))) then (bif (Nat.beq (qWI N n ((vYX .i64 (((n + 1):Int) - 1)),(fun v=>(bif (Nat.beq v n) then ec else (qc v))),(fun v=>(bif (Nat.beq v n) then ep else (qp v))),(fun v=>(bif (Nat.beq v n) then ex else (qx v))))).1 0) then some (.v (.t [.t [],.gs 98 3 (.lf (n + 1) (fun v=>[.n .i64 ((qWI N n ((vYX .i64 (((n + 1):Int) - 1)),(fun v=>(bif (Nat.beq v n) then ec else (qc v))),(fun v=>(bif (Nat.beq v n) then ep else (qp v))),(fun v=>(bif (Nat.beq v n) then ex else (qx v))))).2.2.1 v),.n .i64 ((qWI N n ((vYX .i64 (((n + 1):Int) - 1)),(fun v=>(bif (Nat.beq v n) then ec else (qc v))),(fun v=>(bif (Nat.beq v n) then ep else (qp v))),(fun v=>(bif (Nat.beq v n) then ex else (qx v))))).2.2.2.1 v),.n .i64 ((qWI N n ((vYX .i64 (((n + 1):Int) - 1)),(fun v=>(bif (Nat.beq v n) then ec else (qc v))),(fun v=>(bif (Nat.beq v n) then ep else (qp v))),(fun v=>(bif (Nat.beq v n) then ex else (qx v))))).2.2.2.2 v)]))]),[])
 else none)
 else none)
 else none)
 else none):=by kernel_rfl
theorem jKI (N n:Nat) (qc qp qx:Nat→Int) (ec ep ex:Int) (hN:N=n + 2) (h:QOk n qc qp) (hn:n + 1≤1000000) (he:0 < ep):zVX Try.prog 66 [.p 1000000 0,.v (.a [.n .i64 ec,.n .i64 ep,.n .i64 ex])] [.gs 98 3 (.lf n (q3 qc qp qx))] (.t []) ([.gs 98 3 (.lf (n + 1) (q3 (puT n qc qp qx ec ep ex).1 (puT n qc qp qx ec ep ex).2.1 (puT n qc qp qx ec ep ex).2.2))]):=by
 refine qWX (N:=N) (LO:=qY (lspu N n qc qp qx ec ep ex)) yV yX (yG (l:=[(65,o_bt)]) (m:=[]) ⟨jJX,trivial⟩ trivial) (fun p S hp => ?_) ?_
 ·refine qW (L:=qQ Tf 66) (l:=(lspu N n qc qp qx ec ep ex)) (show AllP _ (lspu N n qc qp qx ec ep ex) from ⟨?_,trivial⟩) p S hp
  ·dsimp only;refine yZ (T:=Tf) (o:=(orpu N n qc qp qx ec ep ex)) (f:=66) (LO:=qY []) (p:=[0,1,0,1,1]) jQ ?_;intro t K r hr;obtain ⟨hg,hr⟩:=qZ hr
   skip
   exact (lwpu K N n qc qp qx ec ep ex t hg).trans hr
 ·refine (pxpu N n qc qp qx ec ep ex).trans ?_;subst hN;have e:vYX .i64 (((n:Int) + 1) - 1)=(n:Int):=by rw [yH (by omega)]; omega
  obtain ⟨s1,s2,_⟩:=zGQ (x:=qx) (ex:=ex) h hn he;simp only [e,yQ,vYJ hn,vYQ];rw [show zWZ (n + 2) n ((n:Int),(fun v=>(bif (Nat.beq v n) then ec else (qc v))),(fun v=>(bif (Nat.beq v n) then ep else (qp v))),(fun v=>(bif (Nat.beq v n) then ex else (qx v))))=true from s1,show (qWI (n + 2) n ((n:Int),(fun v=>(bif (Nat.beq v n) then ec else (qc v))),(fun v=>(bif (Nat.beq v n) then ep else (qp v))),(fun v=>(bif (Nat.beq v n) then ex else (qx v))))).1=0 from s2];rfl
noncomputable def lspo (N n:Nat) (qc qp qx:Nat→Int):List (List Nat × yK):=[([0,1,0,1,1,1,1,1],sumF (fun t:(Int × (Nat→Int) × (Nat→Int) × (Nat→Int))=>(hpo N n qc qp qx t.1 t.2.1 t.2.2.1 t.2.2.2)) (fun σ=>(slI σ 6,rgI σ 1000001 0,rgI σ 1000001 1,rgI σ 1000001 2)) (fun t K=>(bif zWJ N n t then kxpo N n qc qp qx K (qWL N n t) else none)))]
set_option maxRecDepth 100000 in
theorem pxpo (N n:Nat) (qc qp qx:Nat→Int):zHE Tf (orpo N n qc qp qx) (qY (lspo N n qc qp qx)) N 64 [.p 1000000 0] [.gs 98 3 (.lf n (q3 qc qp qx))] =
 (bif (inB 0 n) then (bif (inB (vYX .i64 ((n:Int) - 1)) n) then (bif (inB 0 n) then (bif (decide (0≤(vYX .i64 ((n:Int) - 1)))) then (bif (decide ((vYX .i64 ((n:Int) - 1)).toNat≤n)) then (bif (gSt (hpo N n qc qp qx 0 (fun v=>(bif (Nat.beq v 0) then (qc (vYX .i64 ((n:Int) - 1)).toNat) else (qc v))) (fun v=>(bif (Nat.beq v 0) then (qp (vYX .i64 ((n:Int) - 1)).toNat) else (qp v))) (fun v=>(bif (Nat.beq v 0) then (qx (vYX .i64 ((n:Int) - 1)).toNat) else (qx v)))) (hpo N n qc qp qx 0 (fun v=>(bif (Nat.beq v 0) then (qc (vYX .i64 ((n:Int) - 1)).toNat) else (qc v))) (fun v=>(bif (Nat.beq v 0) then (qp (vYX .i64 ((n:Int) - 1)).toNat) else (qp v))) (fun v=>(bif (Nat.beq v 0) then (qx (vYX .i64 ((n:Int) - 1)).toNat) else (qx v))))) then (bif (zWJ N n (0,(fun v=>(bif (Nat.beq v 0) then (qc (vYX .i64 ((n:Int) - 1)).toNat) else (qc v))),(fun v=>(bif (Nat.beq v 0) then (qp (vYX .i64 ((n:Int) - 1)).toNat) else (qp v))),(fun v=>(bif (Nat.beq v 0) then (qx (vYX .i64 ((n:Int) - 1)).toNat) else (qx v))))) then (bif (Nat.beq (qWL N n (0,(fun v=>(bif (Nat.beq v 0) then (qc (vYX .i64 ((n:Int) - 1)).toNat) else (qc v))),(fun v=>(bif (Nat.beq v 0) then (qp (vYX .i64 ((n:Int) - 1)).toNat) else (qp v))),(fun v=>(bif (Nat.beq v 0) then (qx (vYX .i64 ((n:Int) - 1)).toNat) else (qx v))))).1 0) then some (.v (.t [.a [.n .i64 (qc 0),.n .i64 (qp 0),.n .i64 (qx 0)],.gs 98 3 (.lf (vYX .i64 ((n:Int) - 1)).toNat (fun v=>[.n .i64 ((qWL N n (0,(fun v=>(bif (Nat.beq v 0) then (qc (vYX .i64 ((n:Int) - 1)).toNat) else (qc v))),(fun v=>(bif (Nat.beq v 0) then (qp (vYX .i64 ((n:Int) - 1)).toNat) else (qp v))),(fun v=>(bif (Nat.beq v 0) then (qx (vYX .i64 ((n:Int) - 1)).toNat) else (qx v))))).2.2.1 v),.n .i64 ((qWL N n (0,(fun v=>(bif (Nat.beq v 0) then (qc (vYX .i64 ((n:Int) - 1)).toNat) else (qc v))),(fun v=>(bif (Nat.beq v 0) then (qp (vYX .i64 ((n:Int) - 1)).toNat) else (qp v))),(fun v=>(bif (Nat.beq v 0) then (qx (vYX .i64 ((n:Int) - 1)).toNat) else (qx v))))).2.2.2.1 v),.n .i64 ((qWL N n (0,(fun v=>(bif (Nat.beq v 0) then (qc (vYX .i64 ((n:Int) - 1)).toNat) else (qc v))),(fun v=>(bif (Nat.beq v 0) then (qp (vYX .i64 ((n:Int) - 1)).toNat) else (qp v))),(fun v=>(bif (Nat.beq v 0) then (qx (vYX .i64 ((n:Int) - 1)).toNat) else (qx v))))).2.2.2.2 v)]))]),[])
 else none)
 else none)
 else none)
 else none)
 else none)
 else none)
 else none)
 else none):=by kernel_rfl
theorem jUQ (N n:Nat) (qc qp qx:Nat→Int) (hN:N=n + 2) (h:QOk n qc qp) (h1:1≤n):zVX Try.prog 64 [.p 1000000 0] [.gs 98 3 (.lf n (q3 qc qp qx))] (.a [.n .i64 (qc 0),.n .i64 (qp 0),.n .i64 (qx 0)]) ([.gs 98 3 (.lf (n - 1) (q3 (poT n qc qp qx).1 (poT n qc qp qx).2.1 (poT n qc qp qx).2.2))]):=by
 refine qWX (N:=N) (LO:=qY (lspo N n qc qp qx)) yV yX (yG (l:=[(65,o_bt)]) (m:=[]) ⟨jJX,trivial⟩ trivial) (fun p S hp => ?_) ?_
 ·refine qW (L:=qQ Tf 64) (l:=(lspo N n qc qp qx)) (show AllP _ (lspo N n qc qp qx) from ⟨?_,trivial⟩) p S hp
  ·dsimp only;refine yZ (T:=Tf) (o:=(orpo N n qc qp qx)) (f:=64) (LO:=qY []) (p:=[0,1,0,1,1,1,1,1]) jQ ?_;intro t K r hr;obtain ⟨hg,hr⟩:=qZ hr
   skip
   exact (lwpo K N n qc qp qx t hg).trans hr
 ·refine (pxpo N n qc qp qx).trans ?_;subst hN;have hle:=h.le;have e:vYX .i64 ((n:Int) - 1)=((n - 1:Nat):Int):=by rw [yH (by omega)]; omega
  obtain ⟨s1,s2,_⟩:=zZV (x:=qx) h h1;simp only [e,toN,yQ,zU (show n - 1 < n by omega),show inB 0 n=true from zU (p:=0) (show 0 < n by omega),vYJ (show (0:Int)≤((n - 1:Nat):Int) by omega),vYJ (show n - 1≤n by omega),vYQ];rw [show zWJ (n + 2) n (0,(fun v=>(bif (Nat.beq v 0) then (qc (n - 1)) else (qc v))),(fun v=>(bif (Nat.beq v 0) then (qp (n - 1)) else (qp v))),(fun v=>(bif (Nat.beq v 0) then (qx (n - 1)) else (qx v))))=true from s1,show (qWL (n + 2) n (0,(fun v=>(bif (Nat.beq v 0) then (qc (n - 1)) else (qc v))),(fun v=>(bif (Nat.beq v 0) then (qp (n - 1)) else (qp v))),(fun v=>(bif (Nat.beq v 0) then (qx (n - 1)) else (qx v))))).1=0 from s2];rfl
def cpu:Nat × (Nat→Int) × (Nat→Int) × (Nat→Int) × Int × Int × Int→Prop:=fun t=>match t with | (n,c,p,_,_,ep,_)=>QOk n c p∧n + 1≤1000000∧0 < ep
def hpu:Nat × (Nat→Int) × (Nat→Int) × (Nat→Int) × Int × Int × Int→List HV:=fun t=>match t with | (n,_,p,_,ec,ep,ex)=>[.p 1000000 0,.v (.a [.n .i64 ec,.n .i64 ep,.n .i64 ex])]
def epu:Nat × (Nat→Int) × (Nat→Int) × (Nat→Int) × Int × Int × Int→List PV:=fun t=>match t with | (n,c,p,x,_,_,_)=>[.gs 98 3 (.lf n (q3 c p x))]
noncomputable def xpu:Nat × (Nat→Int) × (Nat→Int) × (Nat→Int) × Int × Int × Int→PV:=fun t=>match t with | (_,_,_,_,_,_,_)=>.t []
noncomputable def qpu:Nat × (Nat→Int) × (Nat→Int) × (Nat→Int) × Int × Int × Int→List PV:=fun t=>match t with | (n,c,p,x,ec,ep,ex)=>[.gs 98 3 (.lf (n + 1) (q3 (puT n c p x ec ep ex).1 (puT n c p x ec ep ex).2.1 (puT n c p x ec ep ex).2.2))]
def dpu:List HV→List PV→Nat × (Nat→Int) × (Nat→Int) × (Nat→Int) × Int × Int × Int:=fun hs ps=>match hs,ps with
 | [.p _ _,.v (.a [.n _ a,.n _ b,.n _ d])],[.gs _ _ (.lf n f)]=>(n,unq 0 f,unq 1 f,unq 2 f,a,b,d)
 | _,_=>(0,fun _=>0,fun _=>0,fun _=>0,0,0,0)
noncomputable def o_pu:List HV→List PV→Option (Bool × (PV × List PV)):=o_fb dpu cpu hpu epu xpu qpu
theorem kQZ:OneOkBq Try.prog 66 o_pu (Tf.gq 66):=by
 rw [show Tf.gq 66=true by kernel_rfl];refine jWK fun t h => ?_
 obtain ⟨n,c,p,x,ec,ep,ex⟩:=t;exact jKI (n + 2) n c p x ec ep ex rfl h.1 h.2.1 h.2.2
def cpo:Nat × (Nat→Int) × (Nat→Int) × (Nat→Int)→Prop:=fun t=>match t with | (n,c,p,_)=>QOk n c p∧1≤n
def hpo:Nat × (Nat→Int) × (Nat→Int) × (Nat→Int)→List HV:=fun t=>match t with | (_,_,p,_)=>[.p 1000000 0]
def epo:Nat × (Nat→Int) × (Nat→Int) × (Nat→Int)→List PV:=fun t=>match t with | (n,c,p,x)=>[.gs 98 3 (.lf n (q3 c p x))]
noncomputable def xpo:Nat × (Nat→Int) × (Nat→Int) × (Nat→Int)→PV:=fun t=>match t with | (n,c,p,x)=>.a [.n .i64 (c 0),.n .i64 (p 0),.n .i64 (x 0)]
noncomputable def qpo:Nat × (Nat→Int) × (Nat→Int) × (Nat→Int)→List PV:=fun t=>match t with | (n,c,p,x)=>[.gs 98 3 (.lf (n - 1) (q3 (poT n c p x).1 (poT n c p x).2.1 (poT n c p x).2.2))]
def dpo:List HV→List PV→Nat × (Nat→Int) × (Nat→Int) × (Nat→Int):=fun hs ps=>match hs,ps with
 | [.p _ _],[.gs _ _ (.lf n f)]=>(n,unq 0 f,unq 1 f,unq 2 f)
 | _,_=>(0,fun _=>0,fun _=>0,fun _=>0)
noncomputable def o_po:List HV→List PV→Option (Bool × (PV × List PV)):=o_fb dpo cpo hpo epo xpo qpo
theorem kQJ:OneOkBq Try.prog 64 o_po (Tf.gq 64):=by
 rw [show Tf.gq 64=true by kernel_rfl];refine jWK fun t h => ?_
 obtain ⟨n,c,p,x⟩:=t;exact jUQ (n + 2) n c p x rfl h.1 h.2
end Go.Proofs.Ytglkkhpdbfacfaa.Bf
namespace Go.Proofs.Ytglkkhpdbfacfaa.Bh
open Go.Rx Rt Go.Sx Go.RowKit Ba Bb Bc Bd Be Bf
def ixB (t c rc rp:Nat→Int) (x:Int) (i:Nat):Bool:=!(decide (rp (t i).toNat=vYX .i64 (rp x.toNat - 1)) && decide (vYX .i64 (rc (t i).toNat + c i)=rc x.toNat))
def ixI (n:Nat) (t c rc rp:Nat→Int) (x:Int):Int:=bif allN (fun i:Nat=>ixB t c rc rp x i) n 0 then -1 else ((Rx.firstK (fun i:Nat=>ixB t c rc rp x i) n 0:Nat):Int)
noncomputable def orix (n:Nat) (_ _:Nat→Int) (_:Nat) (_ _:Nat→Int) (x:Int):OrS:=orS [] []
noncomputable def hix (n:Nat) (tt cc:Nat→Int) (np:Nat) (rc rp:Nat→Int) (x:Int) (i:Int):St:=⟨[(0,.v (.lf n (fun w=>[.n .i64 (tt w),.n .i64 (cc w)]))),(1,.v (.f 68 [] [.c [.lf np (fun v=>[.n .i64 (rc v),.n .i64 (rp v)])] 0,.c [.n .i64 x] 0])),(7,.v (.n .i64 (n:Int))),(8,.v (.n .i64 i))],[]⟩
set_option maxRecDepth 100000 in
theorem rdix (G:St→Option (Ret × Mem)) (K:Cont) (n:Nat) (tt cc:Nat→Int) (np:Nat) (rc rp:Nat→Int) (x:Int) (i:Int):zH (n + 10) (cxS Tf (orix n tt cc np rc rp x) (n + 10) 67 (ntmF Tf 67)) (evX Tf (orix n tt cc np rc rp x) (n + 10) 67 (ntmF Tf 67)) (qY []) (qQ Tf 67 [0,1,0,1]) [0,1,0,1] (Tf.hint 67 (qJ (qQ Tf 67 [0,1,0,1]))) K G (hix n tt cc np rc rp x i) =
 (bif (decide (i < (n:Int))) then (bif (inB i n) then (bif (inB (tt (i).toNat) np) then (bif (inB x np) then (bif (decide ((rp ((tt (i).toNat)).toNat)=(vYX .i64 ((rp (x).toNat) - 1)))) then (bif (inB x np) then (bif (decide ((vYX .i64 ((rc ((tt (i).toNat)).toNat) + (cc (i).toNat)))=(rc (x).toNat))) then (K .ret ⟨[(4,.v (.n .i64 i))],[]⟩)
 else (G (hix n tt cc np rc rp x (vYX .i64 (i + 1)))))
 else none)
 else (G (hix n tt cc np rc rp x (vYX .i64 (i + 1)))))
 else none)
 else none)
 else none)
 else (K (.exit 0) ⟨[],[]⟩)):=by kernel_rfl
theorem lpix (K:Cont) (n:Nat) (tt cc:Nat→Int) (np:Nat) (rc rp:Nat→Int) (x:Int) (_:n≤100000) (ht:∀ i,i < n→inB (tt i) np=true) (hx:inB x np=true):LFX (n + 10) (cxS Tf (orix n tt cc np rc rp x) (n + 10) 67 (ntmF Tf 67)) (evX Tf (orix n tt cc np rc rp x) (n + 10) 67 (ntmF Tf 67)) (qY []) (qQ Tf 67 [0,1,0,1]) [0,1,0,1] (Tf.hint 67 (qJ (qQ Tf 67 [0,1,0,1]))) K (n + 10) (hix n tt cc np rc rp x 0)=bif (allN (fun i:Nat=>ixB tt cc rc rp x i) n 0) then (K (.exit 0) ⟨[],[]⟩) else (K .ret ⟨[(4,.v (.n .i64 ((Rx.firstK (fun i:Nat=>ixB tt cc rc rp x i) n 0:Nat):Int)))],[]⟩):=by
 refine (zQK (L:=LFX (n + 10) (cxS Tf (orix n tt cc np rc rp x) (n + 10) 67 (ntmF Tf 67)) (evX Tf (orix n tt cc np rc rp x) (n + 10) 67 (ntmF Tf 67)) (qY []) (qQ Tf 67 [0,1,0,1]) [0,1,0,1] (Tf.hint 67 (qJ (qQ Tf 67 [0,1,0,1]))) K) (stp:=zH (n + 10) (cxS Tf (orix n tt cc np rc rp x) (n + 10) 67 (ntmF Tf 67)) (evX Tf (orix n tt cc np rc rp x) (n + 10) 67 (ntmF Tf 67)) (qY []) (qQ Tf 67 [0,1,0,1]) [0,1,0,1] (Tf.hint 67 (qJ (qQ Tf 67 [0,1,0,1]))) K) (fun _ _=>rfl) (fun (i:Nat) (_:Unit)=>hix n tt cc np rc rp x (i:Int)) (fun _ _=>True) (fun (i:Nat) _=>ixB tt cc rc rp x i) (fun _ _=>()) (c:=n) (fun _=>(K (.exit 0) ⟨[],[]⟩)) (fun i _=>(K .ret ⟨[(4,.v (.n .i64 (i:Int)))],[]⟩)) (fun G i f hi _ => ?_) (fun _ _ _ _ _=>trivial) (fun G f _ => ?_) n 0 (n + 10) () (by omega) (by omega) trivial).trans ((qYQ _ _ _ _ _).trans (qWW _ _ _ _ _))
 ·refine (rdix G K n tt cc np rc rp x i).trans ?_;rw [vYJ (show (i:Int) < (n:Int) by omega),uK (by omega),zU (show i < n by omega)];simp only [toN,ht i (by omega),hx,vYQ,ixB];cases decide (rp (tt i).toNat=vYX .i64 (rp x.toNat - 1)) <;> cases decide (vYX .i64 (rc (tt i).toNat + cc i)=rc x.toNat) <;> rfl
 ·refine (rdix G K n tt cc np rc rp x n).trans ?_;rw [vYY (show ¬ (n:Int) < (n:Int) by omega)];rfl
noncomputable def lsix (n:Nat) (tt cc:Nat→Int) (np:Nat) (rc rp:Nat→Int) (x:Int):List (List Nat × yK):=[([0,1,0,1],sumF (fun _:Unit=>(hix n tt cc np rc rp x 0)) (fun _=>()) (fun _ K=>(bif (decide (n≤100000)) then (bif (allN (fun i:Nat=>ixB tt cc rc rp x i) n 0) then (K (.exit 0) ⟨[],[]⟩) else (K .ret ⟨[(4,.v (.n .i64 ((Rx.firstK (fun i:Nat=>ixB tt cc rc rp x i) n 0:Nat):Int)))],[]⟩)) else none)))]
set_option maxRecDepth 100000 in
theorem pxix (n:Nat) (tt cc:Nat→Int) (np:Nat) (rc rp:Nat→Int) (x:Int):qQK Tf (orix n tt cc np rc rp x) (qY (lsix n tt cc np rc rp x)) (n + 10) 67 [.lf n (fun w=>[.n .i64 (tt w),.n .i64 (cc w)]),.f 68 [] [.c [.lf np (fun v=>[.n .i64 (rc v),.n .i64 (rp v)])] 0,.c [.n .i64 x] 0]] =
 (bif (gSt (hix n tt cc np rc rp x 0) (hix n tt cc np rc rp x 0)) then (bif (decide (n≤100000)) then (bif (allN (fun i:Nat=>ixB tt cc rc rp x i) n 0) then some (.v (.n .i64 (-1)),[])
 else some (.v (.n .i64 ((Rx.firstK (fun i:Nat=>ixB tt cc rc rp x i) n 0:Nat):Int)),[]))
 else none)
 else none):=by kernel_rfl
theorem jUX (n:Nat) (tt cc:Nat→Int) (np:Nat) (rc rp:Nat→Int) (x:Int) (hn:n≤100000) (ht:∀ i,i < n→inB (tt i) np=true) (hx:inB x np=true):yY Try.prog 67 [.lf n (fun w=>[.n .i64 (tt w),.n .i64 (cc w)]),.f 68 [] [.c [.lf np (fun v=>[.n .i64 (rc v),.n .i64 (rp v)])] 0,.c [.n .i64 x] 0]] (.v (.n .i64 (ixI n tt cc rc rp x))):=by
 refine qG (N:=(n + 10)) (LO:=qY (lsix n tt cc np rc rp x)) yV yX (yG (l:=[]) (m:=[]) trivial trivial) (fun p S hp => ?_) ?_
 ·refine qW (L:=qQ Tf 67) (l:=(lsix n tt cc np rc rp x)) (show AllP _ (lsix n tt cc np rc rp x) from ⟨?_,trivial⟩) p S hp
  ·dsimp only;refine yZ (T:=Tf) (o:=(orix n tt cc np rc rp x)) (f:=67) (LO:=qY []) (p:=[0,1,0,1]) jQ ?_;intro t K r hr;obtain ⟨hg,hr⟩:=qZ hr;have hn:=vYK hg;exact (lpix K n tt cc np rc rp x hn ht hx).trans hr
 ·refine (pxix n tt cc np rc rp x).trans ?_;unfold ixI;simp only [yQ,vYJ hn,vYQ];cases allN (fun i:Nat=>ixB tt cc rc rp x i) n 0 <;> rfl
def tcP (t c:Nat→Int):Nat→List PV:=fun w=>[.n .i64 (t w),.n .i64 (c w)]
def cix:Nat × (Nat→Int) × (Nat→Int) × Nat × (Nat→Int) × (Nat→Int) × Int→Prop:=fun t=>match t with | (n,t,_,np,_,_,x)=>n≤100000∧(∀ i,i < n→inB (t i) np=true)∧inB x np=true
def eix:Nat × (Nat→Int) × (Nat→Int) × Nat × (Nat→Int) × (Nat→Int) × Int→List PV:=fun t=>match t with | (n,t,c,np,rc,rp,x)=>[.lf n (tcP t c),.f 68 [] [.c [.lf np (tcP rc rp)] 0,.c [.n .i64 x] 0]]
noncomputable def rix:Nat × (Nat→Int) × (Nat→Int) × Nat × (Nat→Int) × (Nat→Int) × Int→Ret:=fun t=>match t with | (n,t,c,_,rc,rp,x)=>.v (.n .i64 (ixI n t c rc rp x))
def dix:List PV→Nat × (Nat→Int) × (Nat→Int) × Nat × (Nat→Int) × (Nat→Int) × Int:=fun ps=>match ps with
 | [.lf n f,.f _ _ [.c [.lf np r] _,.c [.n _ x] _]]=>(n,unq 0 f,unq 1 f,np,unq 0 r,unq 1 r,x)
 | _=>(0,fun _=>0,fun _=>0,0,fun _=>0,fun _=>0,0)
noncomputable def o_ix:List PV→Option (Bool × Ret):=o_fm dix cix eix rix
theorem kQV:qQY Try.prog 67 o_ix:=qQF fun t h=>by
 obtain ⟨n,t,c,np,rc,rp,x⟩:=t;exact jUX n t c np rc rp x h.1 h.2.1 h.2.2
end Go.Proofs.Ytglkkhpdbfacfaa.Bh
namespace Go.Proofs.Ytglkkhpdbfacfaa.Bg
open Go.Rx Rt Go.Sx Go.RowKit Ba Bb Bc Bd Be Bf Bh
noncomputable def orst (N _:Nat) (_:Nat→Nat) (_ _:Nat→Nat→Int) (a b:Int):OrS:=orS [(65,o_bt),(67,o_ix)] [(66,o_pu),(64,o_po)]
noncomputable def hsi (N np:Nat) (ln:Nat→Nat) (lt lc:Nat→Nat→Int) (a b:Int) (j:Int) (xc:Int) (xp:Int) (xv:Int) (rc:Nat→Int) (rp:Nat→Int) (qn:Nat) (qc:Nat→Int) (qp:Nat→Int) (qx:Nat→Int):St:=⟨[(0,.v (.lf np (fun u=>[.lf (ln u) (fun w=>[.n .i64 (lt u w),.n .i64 (lc u w)])]))),(1,.v (.n .i64 a)),(2,.v (.n .i64 b)),(6,.p 6 0),(8,.p 8 0),(9,.p 9 0),(10,.p 10 0),(53,.v (.lf (ln (xv).toNat) (fun w=>[.n .i64 (lt (xv).toNat w),.n .i64 (lc (xv).toNat w)]))),(54,.v (.n .i64 ((ln (xv).toNat):Int))),(55,.v (.n .i64 j))],[(6,.blk [.nl,.v (.n .i64 0)]),(8,.blk [.o 19]),(9,.blk [.o 30]),(10,.blk [.v (.n .i64 xc),.v (.n .i64 xp),.v (.n .i64 xv)]),(19,.reg 96 2 (.fo (np:Int).toNat (fun v=>[.n .i64 (rc v),.n .i64 (rp v)]))),(30,.reg 98 3 (.fo qn (q3 qc qp qx)))]⟩
set_option maxRecDepth 100000 in
theorem rdsi (G:St→Option (Ret × Mem)) (K:Cont) (N np:Nat) (ln:Nat→Nat) (lt lc:Nat→Nat→Int) (a b:Int) (j:Int) (xc:Int) (xp:Int) (xv:Int) (rc:Nat→Int) (rp:Nat→Int) (qn:Nat) (qc:Nat→Int) (qp:Nat→Int) (qx:Nat→Int):zH N (cxS Tf (orst N np ln lt lc a b) N 55 (ntmF Tf 55)) (evX Tf (orst N np ln lt lc a b) N 55 (ntmF Tf 55)) (qY []) (qQ Tf 55 [0,1,1,1,0,1,0,0,0,1,1,1,1,0,1]) [0,1,1,1,0,1,0,0,0,1,1,1,1,0,1] (Tf.hint 55 (qJ (qQ Tf 55 [0,1,1,1,0,1,0,0,0,1,1,1,1,0,1]))) K G (hsi N np ln lt lc a b j xc xp xv rc rp qn qc qp qx) =
 (bif (decide (j < ((ln (xv).toNat):Int))) then (bif (inB j (ln (xv).toNat)) then (bif (inB (lt (xv).toNat (j).toNat) (np:Int).toNat) then (bif (gF1 cbt ebt ((vYX .i64 (xc + (lc (xv).toNat (j).toNat))),(vYX .i64 (xp + 1)),(rc (lt (xv).toNat (j).toNat).toNat),(rp (lt (xv).toNat (j).toNat).toNat))) then (bif (btB (vYX .i64 (xc + (lc (xv).toNat (j).toNat))) (vYX .i64 (xp + 1)) (rc (lt (xv).toNat (j).toNat).toNat) (rp (lt (xv).toNat (j).toNat).toNat)) then (bif (inB (lt (xv).toNat (j).toNat) (np:Int).toNat) then (bif (gB1 cpu hpu epu (qn,qc,qp,qx,(vYX .i64 (xc + (lc (xv).toNat (j).toNat))),(vYX .i64 (xp + 1)),(lt (xv).toNat (j).toNat))) then (G (hsi N np ln lt lc a b (vYX .i64 (j + 1)) xc xp xv (fun v=>(bif (Nat.beq v (lt (xv).toNat (j).toNat).toNat) then (vYX .i64 (xc + (lc (xv).toNat (j).toNat))) else (rc v))) (fun v=>(bif (Nat.beq v (lt (xv).toNat (j).toNat).toNat) then (vYX .i64 (xp + 1)) else (rp v))) (qn + 1) (fun v=>((puT qn qc qp qx (vYX .i64 (xc + (lc (xv).toNat (j).toNat))) (vYX .i64 (xp + 1)) (lt (xv).toNat (j).toNat)).1 v)) (fun v=>((puT qn qc qp qx (vYX .i64 (xc + (lc (xv).toNat (j).toNat))) (vYX .i64 (xp + 1)) (lt (xv).toNat (j).toNat)).2.1 v)) (fun v=>((puT qn qc qp qx (vYX .i64 (xc + (lc (xv).toNat (j).toNat))) (vYX .i64 (xp + 1)) (lt (xv).toNat (j).toNat)).2.2 v))))
 else none)
 else none)
 else (G (hsi N np ln lt lc a b (vYX .i64 (j + 1)) xc xp xv (fun v=>(rc v)) (fun v=>(rp v)) qn (fun v=>(qc v)) (fun v=>(qp v)) (fun v=>(qx v)))))
 else none)
 else none)
 else none)
 else (K (.exit 3) ⟨[(0,.v (.lf np (fun u=>[.lf (ln u) (fun w=>[.n .i64 (lt u w),.n .i64 (lc u w)])]))),(1,.v (.n .i64 a)),(2,.v (.n .i64 b)),(6,.p 6 0),(8,.p 8 0),(9,.p 9 0)],[(6,.blk [.nl,.v (.n .i64 0)]),(8,.blk [.o 19]),(9,.blk [.o 30]),(19,.reg 96 2 (.fo (np:Int).toNat (fun v=>[.n .i64 (rc v),.n .i64 (rp v)]))),(30,.reg 98 3 (.fo qn (q3 qc qp qx)))]⟩)):=by kernel_rfl
noncomputable def dcsi (np:Nat) (ln:Nat→Nat) (lt lc:Nat→Nat→Int):(Int × Int × Int × Int × (Nat→Int) × (Nat→Int) × Nat × (Nat→Int) × (Nat→Int) × (Nat→Int))→(Int × Int × Int × Int × (Nat→Int) × (Nat→Int) × Nat × (Nat→Int) × (Nat→Int) × (Nat→Int)) ⊕ (Nat × Int × Int × Int × Int × (Nat→Int) × (Nat→Int) × Nat × (Nat→Int) × (Nat→Int) × (Nat→Int)):=fun t=>match t with | (j,xc,xp,xv,rc,rp,qn,qc,qp,qx)=>(bif (decide (j < ((ln (xv).toNat):Int))) then (bif (inB j (ln (xv).toNat)) then (bif (inB (lt (xv).toNat (j).toNat) (np:Int).toNat) then (bif (gF1 cbt ebt ((vYX .i64 (xc + (lc (xv).toNat (j).toNat))),(vYX .i64 (xp + 1)),(rc (lt (xv).toNat (j).toNat).toNat),(rp (lt (xv).toNat (j).toNat).toNat))) then (bif (btB (vYX .i64 (xc + (lc (xv).toNat (j).toNat))) (vYX .i64 (xp + 1)) (rc (lt (xv).toNat (j).toNat).toNat) (rp (lt (xv).toNat (j).toNat).toNat)) then (bif (gB1 cpu hpu epu (qn,qc,qp,qx,(vYX .i64 (xc + (lc (xv).toNat (j).toNat))),(vYX .i64 (xp + 1)),(lt (xv).toNat (j).toNat))) then (.inl ((vYX .i64 (j + 1)),xc,xp,xv,(fun v=>(bif (Nat.beq v (lt (xv).toNat (j).toNat).toNat) then (vYX .i64 (xc + (lc (xv).toNat (j).toNat))) else (rc v))),(fun v=>(bif (Nat.beq v (lt (xv).toNat (j).toNat).toNat) then (vYX .i64 (xp + 1)) else (rp v))),(qn + 1),(fun v=>((puT qn qc qp qx (vYX .i64 (xc + (lc (xv).toNat (j).toNat))) (vYX .i64 (xp + 1)) (lt (xv).toNat (j).toNat)).1 v)),(fun v=>((puT qn qc qp qx (vYX .i64 (xc + (lc (xv).toNat (j).toNat))) (vYX .i64 (xp + 1)) (lt (xv).toNat (j).toNat)).2.1 v)),(fun v=>((puT qn qc qp qx (vYX .i64 (xc + (lc (xv).toNat (j).toNat))) (vYX .i64 (xp + 1)) (lt (xv).toNat (j).toNat)).2.2 v)))) else (.inr (1,(j,xc,xp,xv,rc,rp,qn,qc,qp,qx)))) else (.inl ((vYX .i64 (j + 1)),xc,xp,xv,(fun v=>(rc v)),(fun v=>(rp v)),qn,(fun v=>(qc v)),(fun v=>(qp v)),(fun v=>(qx v))))) else (.inr (1,(j,xc,xp,xv,rc,rp,qn,qc,qp,qx)))) else (.inr (1,(j,xc,xp,xv,rc,rp,qn,qc,qp,qx)))) else (.inr (1,(j,xc,xp,xv,rc,rp,qn,qc,qp,qx)))) else (.inr (0,(j,xc,xp,xv,rc,rp,qn,qc,qp,qx))))
noncomputable def kxsi (N np:Nat) (ln:Nat→Nat) (lt lc:Nat→Nat→Int) (a b:Int) (K:Cont) (w9:Nat × Int × Int × Int × Int × (Nat→Int) × (Nat→Int) × Nat × (Nat→Int) × (Nat→Int) × (Nat→Int)):Option (Ret × Mem):=bif Nat.beq w9.1 0 then (K (.exit 3) ⟨[(0,.v (.lf np (fun u=>[.lf (ln u) (fun w=>[.n .i64 (lt u w),.n .i64 (lc u w)])]))),(1,.v (.n .i64 a)),(2,.v (.n .i64 b)),(6,.p 6 0),(8,.p 8 0),(9,.p 9 0)],[(6,.blk [.nl,.v (.n .i64 0)]),(8,.blk [.o 19]),(9,.blk [.o 30]),(19,.reg 96 2 (.fo (np:Int).toNat (fun v=>[.n .i64 (w9.2.2.2.2.2.1 v),.n .i64 (w9.2.2.2.2.2.2.1 v)]))),(30,.reg 98 3 (.fo w9.2.2.2.2.2.2.2.1 (q3 w9.2.2.2.2.2.2.2.2.1 w9.2.2.2.2.2.2.2.2.2.1 w9.2.2.2.2.2.2.2.2.2.2)))]⟩) else none
theorem wlsi (K:Cont) (N np:Nat) (ln:Nat→Nat) (lt lc:Nat→Nat→Int) (a b:Int):∀ n9 (t:(Int × Int × Int × Int × (Nat→Int) × (Nat→Int) × Nat × (Nat→Int) × (Nat→Int) × (Nat→Int))),LFX N (cxS Tf (orst N np ln lt lc a b) N 55 (ntmF Tf 55)) (evX Tf (orst N np ln lt lc a b) N 55 (ntmF Tf 55)) (qY []) (qQ Tf 55 [0,1,1,1,0,1,0,0,0,1,1,1,1,0,1]) [0,1,1,1,0,1,0,0,0,1,1,1,1,0,1] (Tf.hint 55 (qJ (qQ Tf 55 [0,1,1,1,0,1,0,0,0,1,1,1,1,0,1]))) K n9 (hsi N np ln lt lc a b t.1 t.2.1 t.2.2.1 t.2.2.2.1 t.2.2.2.2.1 t.2.2.2.2.2.1 t.2.2.2.2.2.2.1 t.2.2.2.2.2.2.2.1 t.2.2.2.2.2.2.2.2.1 t.2.2.2.2.2.2.2.2.2)=(qU (dcsi np ln lt lc) n9 t).bind (kxsi N np ln lt lc a b K):=fun n9 t=>by
 refine kG (L:=LFX N (cxS Tf (orst N np ln lt lc a b) N 55 (ntmF Tf 55)) (evX Tf (orst N np ln lt lc a b) N 55 (ntmF Tf 55)) (qY []) (qQ Tf 55 [0,1,1,1,0,1,0,0,0,1,1,1,1,0,1]) [0,1,1,1,0,1,0,0,0,1,1,1,1,0,1] (Tf.hint 55 (qJ (qQ Tf 55 [0,1,1,1,0,1,0,0,0,1,1,1,1,0,1]))) K) (stp:=zH N (cxS Tf (orst N np ln lt lc a b) N 55 (ntmF Tf 55)) (evX Tf (orst N np ln lt lc a b) N 55 (ntmF Tf 55)) (qY []) (qQ Tf 55 [0,1,1,1,0,1,0,0,0,1,1,1,1,0,1]) [0,1,1,1,0,1,0,0,0,1,1,1,1,0,1] (Tf.hint 55 (qJ (qQ Tf 55 [0,1,1,1,0,1,0,0,0,1,1,1,1,0,1]))) K) (fun _ _=>rfl) (fun _=>rfl) (fun t=>hsi N np ln lt lc a b t.1 t.2.1 t.2.2.1 t.2.2.2.1 t.2.2.2.2.1 t.2.2.2.2.2.1 t.2.2.2.2.2.2.1 t.2.2.2.2.2.2.2.1 t.2.2.2.2.2.2.2.2.1 t.2.2.2.2.2.2.2.2.2) (fun _=>True) (dcsi np ln lt lc) (kxsi N np ln lt lc a b K) (fun G t _ => ?_) (fun _ _ _ _=>trivial) n9 t trivial;obtain ⟨j,xc,xp,xv,rc,rp,qn,qc,qp,qx⟩:=t;refine (rdsi G K N np ln lt lc a b j xc xp xv rc rp qn qc qp qx).trans ?_;dsimp only [dcsi];cases (decide (j < ((ln (xv).toNat):Int)))
 ·rfl
 ·cases (inB j (ln (xv).toNat))
  ·rfl
  ·cases (inB (lt (xv).toNat (j).toNat) (np:Int).toNat)
   ·rfl
   ·cases (gF1 cbt ebt ((vYX .i64 (xc + (lc (xv).toNat (j).toNat))),(vYX .i64 (xp + 1)),(rc (lt (xv).toNat (j).toNat).toNat),(rp (lt (xv).toNat (j).toNat).toNat)))
    ·rfl
    ·cases (btB (vYX .i64 (xc + (lc (xv).toNat (j).toNat))) (vYX .i64 (xp + 1)) (rc (lt (xv).toNat (j).toNat).toNat) (rp (lt (xv).toNat (j).toNat).toNat))
     ·rfl
     ·cases (gB1 cpu hpu epu (qn,qc,qp,qx,(vYX .i64 (xc + (lc (xv).toNat (j).toNat))),(vYX .i64 (xp + 1)),(lt (xv).toNat (j).toNat)))
      ·rfl
      ·rfl
noncomputable def qJI (N:Nat) (np:Nat) (ln:Nat→Nat) (lt lc:Nat→Nat→Int) (t:(Int × Int × Int × Int × (Nat→Int) × (Nat→Int) × Nat × (Nat→Int) × (Nat→Int) × (Nat→Int))):Bool:=(qU (dcsi np ln lt lc) N t).isSome
noncomputable def qQG (N:Nat) (np:Nat) (ln:Nat→Nat) (lt lc:Nat→Nat→Int) (t:(Int × Int × Int × Int × (Nat→Int) × (Nat→Int) × Nat × (Nat→Int) × (Nat→Int) × (Nat→Int))):Nat × Int × Int × Int × Int × (Nat→Int) × (Nat→Int) × Nat × (Nat→Int) × (Nat→Int) × (Nat→Int):=(qU (dcsi np ln lt lc) N t).getD (99,t)
theorem lwsi (K:Cont) (N np:Nat) (ln:Nat→Nat) (lt lc:Nat→Nat→Int) (a b:Int) (t:(Int × Int × Int × Int × (Nat→Int) × (Nat→Int) × Nat × (Nat→Int) × (Nat→Int) × (Nat→Int))) (hg:qJI N np ln lt lc t=true):LFX N (cxS Tf (orst N np ln lt lc a b) N 55 (ntmF Tf 55)) (evX Tf (orst N np ln lt lc a b) N 55 (ntmF Tf 55)) (qY []) (qQ Tf 55 [0,1,1,1,0,1,0,0,0,1,1,1,1,0,1]) [0,1,1,1,0,1,0,0,0,1,1,1,1,0,1] (Tf.hint 55 (qJ (qQ Tf 55 [0,1,1,1,0,1,0,0,0,1,1,1,1,0,1]))) K N (hsi N np ln lt lc a b t.1 t.2.1 t.2.2.1 t.2.2.2.1 t.2.2.2.2.1 t.2.2.2.2.2.1 t.2.2.2.2.2.2.1 t.2.2.2.2.2.2.2.1 t.2.2.2.2.2.2.2.2.1 t.2.2.2.2.2.2.2.2.2)=kxsi N np ln lt lc a b K (qQG N np ln lt lc t):=by
 refine (wlsi K N np ln lt lc a b N t).trans ?_;unfold qJI at hg;unfold qQG;cases h:qU (dcsi np ln lt lc) N t with
 | none=>rw [h] at hg; cases hg
 | some y=>rfl
theorem oksi (N np:Nat) (ln:Nat→Nat) (lt lc:Nat→Nat→Int) (a b:Int):∀ p S,qY [([0,1,1,1,0,1,0,0,0,1,1,1,1,0,1],sumF (fun t:(Int × Int × Int × Int × (Nat→Int) × (Nat→Int) × Nat × (Nat→Int) × (Nat→Int) × (Nat→Int))=>(hsi N np ln lt lc a b t.1 t.2.1 t.2.2.1 t.2.2.2.1 t.2.2.2.2.1 t.2.2.2.2.2.1 t.2.2.2.2.2.2.1 t.2.2.2.2.2.2.2.1 t.2.2.2.2.2.2.2.2.1 t.2.2.2.2.2.2.2.2.2)) (fun σ=>(slI σ 55,bkC σ 10 0,bkC σ 10 1,bkC σ 10 2,rgI σ 19 0,rgI σ 19 1,rgN σ 30,rgI σ 30 0,rgI σ 30 1,rgI σ 30 2)) (fun t K=>(bif qJI N np ln lt lc t then kxsi N np ln lt lc a b K (qQG N np ln lt lc t) else none)))] p=some S→kQ N (cxS Tf (orst N np ln lt lc a b) N 55 (ntmF Tf 55)) (qQ Tf 55 p) S:=fun p S hp=>by
 refine qW (L:=qQ Tf 55) (l:=[([0,1,1,1,0,1,0,0,0,1,1,1,1,0,1],sumF (fun t:(Int × Int × Int × Int × (Nat→Int) × (Nat→Int) × Nat × (Nat→Int) × (Nat→Int) × (Nat→Int))=>(hsi N np ln lt lc a b t.1 t.2.1 t.2.2.1 t.2.2.2.1 t.2.2.2.2.1 t.2.2.2.2.2.1 t.2.2.2.2.2.2.1 t.2.2.2.2.2.2.2.1 t.2.2.2.2.2.2.2.2.1 t.2.2.2.2.2.2.2.2.2)) (fun σ=>(slI σ 55,bkC σ 10 0,bkC σ 10 1,bkC σ 10 2,rgI σ 19 0,rgI σ 19 1,rgN σ 30,rgI σ 30 0,rgI σ 30 1,rgI σ 30 2)) (fun t K=>(bif qJI N np ln lt lc t then kxsi N np ln lt lc a b K (qQG N np ln lt lc t) else none)))]) ⟨?_,trivial⟩ p S hp;dsimp only;refine yZ (T:=Tf) (o:=(orst N np ln lt lc a b)) (f:=55) (LO:=qY []) (p:=[0,1,1,1,0,1,0,0,0,1,1,1,1,0,1]) jQ ?_;intro t K r hr;obtain ⟨hg,hr⟩:=qZ hr
 skip
 exact (lwsi K N np ln lt lc a b t hg).trans hr
noncomputable def hst (N np:Nat) (ln:Nat→Nat) (lt lc:Nat→Nat→Int) (a b:Int) (rc:Nat→Int) (rp:Nat→Int) (qn:Nat) (qc:Nat→Int) (qp:Nat→Int) (qx:Nat→Int):St:=⟨[(0,.v (.lf np (fun u=>[.lf (ln u) (fun w=>[.n .i64 (lt u w),.n .i64 (lc u w)])]))),(1,.v (.n .i64 a)),(2,.v (.n .i64 b)),(6,.p 6 0),(8,.p 8 0),(9,.p 9 0)],[(6,.blk [.nl,.v (.n .i64 0)]),(8,.blk [.o 19]),(9,.blk [.o 30]),(19,.reg 96 2 (.fo (np:Int).toNat (fun v=>[.n .i64 (rc v),.n .i64 (rp v)]))),(30,.reg 98 3 (.fo qn (q3 qc qp qx)))]⟩
set_option maxRecDepth 100000 in
theorem rdst (G:St→Option (Ret × Mem)) (K:Cont) (N np:Nat) (ln:Nat→Nat) (lt lc:Nat→Nat→Int) (a b:Int) (rc:Nat→Int) (rp:Nat→Int) (qn:Nat) (qc:Nat→Int) (qp:Nat→Int) (qx:Nat→Int):zH N (cxS Tf (orst N np ln lt lc a b) N 55 (ntmF Tf 55)) (evX Tf (orst N np ln lt lc a b) N 55 (ntmF Tf 55)) (qY [([0,1,1,1,0,1,0,0,0,1,1,1,1,0,1],sumF (fun t:(Int × Int × Int × Int × (Nat→Int) × (Nat→Int) × Nat × (Nat→Int) × (Nat→Int) × (Nat→Int))=>(hsi N np ln lt lc a b t.1 t.2.1 t.2.2.1 t.2.2.2.1 t.2.2.2.2.1 t.2.2.2.2.2.1 t.2.2.2.2.2.2.1 t.2.2.2.2.2.2.2.1 t.2.2.2.2.2.2.2.2.1 t.2.2.2.2.2.2.2.2.2)) (fun σ=>(slI σ 55,bkC σ 10 0,bkC σ 10 1,bkC σ 10 2,rgI σ 19 0,rgI σ 19 1,rgN σ 30,rgI σ 30 0,rgI σ 30 1,rgI σ 30 2)) (fun t K=>(bif qJI N np ln lt lc t then kxsi N np ln lt lc a b K (qQG N np ln lt lc t) else none)))]) (qQ Tf 55 [0,0,1,1,1,1,0,1]) [0,0,1,1,1,1,0,1] (Tf.hint 55 (qJ (qQ Tf 55 [0,0,1,1,1,1,0,1]))) K G (hst N np ln lt lc a b rc rp qn qc qp qx) =
 (bif (decide (0 < (qn:Int))) then (bif (gB1 cpo hpo epo (qn,qc,qp,qx)) then (bif (decide ((qx 0)=a)) then (K (.exit 0) ⟨[(0,.v (.lf np (fun u=>[.lf (ln u) (fun w=>[.n .i64 (lt u w),.n .i64 (lc u w)])]))),(1,.v (.n .i64 a)),(2,.v (.n .i64 b)),(6,.p 6 0),(8,.p 8 0)],[(6,.blk [.nl,.v (.n .i64 0)]),(8,.blk [.o 19]),(19,.reg 96 2 (.fo (np:Int).toNat (fun v=>[.n .i64 (rc v),.n .i64 (rp v)])))]⟩)
 else (bif (inB (qx 0) (np:Int).toNat) then (bif (!((decide ((qc 0)=(rc (qx 0).toNat))) && ((decide ((qp 0)=(rp (qx 0).toNat))) && true))) then (G (hst N np ln lt lc a b (fun v=>(rc v)) (fun v=>(rp v)) (qn - 1) (fun v=>((poT qn qc qp qx).1 v)) (fun v=>((poT qn qc qp qx).2.1 v)) (fun v=>((poT qn qc qp qx).2.2 v))))
 else (bif (inB (qx 0) np) then (bif (gSt (hsi N np ln lt lc a b 0 (qc 0) (qp 0) (qx 0) (fun v=>(rc v)) (fun v=>(rp v)) (qn - 1) (fun v=>((poT qn qc qp qx).1 v)) (fun v=>((poT qn qc qp qx).2.1 v)) (fun v=>((poT qn qc qp qx).2.2 v))) (hsi N np ln lt lc a b 0 (qc 0) (qp 0) (qx 0) (fun v=>(rc v)) (fun v=>(rp v)) (qn - 1) (fun v=>((poT qn qc qp qx).1 v)) (fun v=>((poT qn qc qp qx).2.1 v)) (fun v=>((poT qn qc qp qx).2.2 v)))) then (bif (qJI N np ln lt lc (0,(qc 0),(qp 0),(qx 0),(fun v=>(rc v)),(fun v=>(rp v)),(qn - 1),(fun v=>((poT qn qc qp qx).1 v)),(fun v=>((poT qn qc qp qx).2.1 v)),(fun v=>((poT qn qc qp qx).2.2 v)))) then (bif (Nat.beq (qQG N np ln lt lc (0,(qc 0),(qp 0),(qx 0),(fun v=>(rc v)),(fun v=>(rp v)),(qn - 1),(fun v=>((poT qn qc qp qx).1 v)),(fun v=>((poT qn qc qp qx).2.1 v)),(fun v=>((poT qn qc qp qx).2.2 v)))).1 0) then (G (hst N np ln lt lc a b (fun v=>((qQG N np ln lt lc (0,(qc 0),(qp 0),(qx 0),(fun v=>(rc v)),(fun v=>(rp v)),(qn - 1),(fun v=>((poT qn qc qp qx).1 v)),(fun v=>((poT qn qc qp qx).2.1 v)),(fun v=>((poT qn qc qp qx).2.2 v)))).2.2.2.2.2.1 v)) (fun v=>((qQG N np ln lt lc (0,(qc 0),(qp 0),(qx 0),(fun v=>(rc v)),(fun v=>(rp v)),(qn - 1),(fun v=>((poT qn qc qp qx).1 v)),(fun v=>((poT qn qc qp qx).2.1 v)),(fun v=>((poT qn qc qp qx).2.2 v)))).2.2.2.2.2.2.1 v)) (qQG N np ln lt lc (0,(qc 0),(qp 0),(qx 0),(fun v=>(rc v)),(fun v=>(rp v)),(qn - 1),(fun v=>((poT qn qc qp qx).1 v)),(fun v=>((poT qn qc qp qx).2.1 v)),(fun v=>((poT qn qc qp qx).2.2 v)))).2.2.2.2.2.2.2.1 (fun v=>((qQG N np ln lt lc (0,(qc 0),(qp 0),(qx 0),(fun v=>(rc v)),(fun v=>(rp v)),(qn - 1),(fun v=>((poT qn qc qp qx).1 v)),(fun v=>((poT qn qc qp qx).2.1 v)),(fun v=>((poT qn qc qp qx).2.2 v)))).2.2.2.2.2.2.2.2.1 v)) (fun v=>((qQG N np ln lt lc (0,(qc 0),(qp 0),(qx 0),(fun v=>(rc v)),(fun v=>(rp v)),(qn - 1),(fun v=>((poT qn qc qp qx).1 v)),(fun v=>((poT qn qc qp qx).2.1 v)),(fun v=>((poT qn qc qp qx).2.2 v)))).2.2.2.2.2.2.2.2.2.1 v)) (fun v=>((qQG N np ln lt lc (0,(qc 0),(qp 0),(qx 0),(fun v=>(rc v)),(fun v=>(rp v)),(qn - 1),(fun v=>((poT qn qc qp qx).1 v)),(fun v=>((poT qn qc qp qx).2.1 v)),(fun v=>((poT qn qc qp qx).2.2 v)))).2.2.2.2.2.2.2.2.2.2 v))))
 else none)
 else none)
 else none)
 else none))
 else none))
 else none)
 else (K (.exit 0) ⟨[(0,.v (.lf np (fun u=>[.lf (ln u) (fun w=>[.n .i64 (lt u w),.n .i64 (lc u w)])]))),(1,.v (.n .i64 a)),(2,.v (.n .i64 b)),(6,.p 6 0),(8,.p 8 0)],[(6,.blk [.nl,.v (.n .i64 0)]),(8,.blk [.o 19]),(19,.reg 96 2 (.fo (np:Int).toNat (fun v=>[.n .i64 (rc v),.n .i64 (rp v)])))]⟩)):=by kernel_rfl
noncomputable def dcst (N:Nat) (np:Nat) (ln:Nat→Nat) (lt lc:Nat→Nat→Int) (a b:Int):((Nat→Int) × (Nat→Int) × Nat × (Nat→Int) × (Nat→Int) × (Nat→Int))→((Nat→Int) × (Nat→Int) × Nat × (Nat→Int) × (Nat→Int) × (Nat→Int)) ⊕ (Nat × (Nat→Int) × (Nat→Int) × Nat × (Nat→Int) × (Nat→Int) × (Nat→Int)):=fun t=>match t with | (rc,rp,qn,qc,qp,qx)=>(bif (decide (0 < (qn:Int))) then (bif (gB1 cpo hpo epo (qn,qc,qp,qx)) then (bif (decide ((qx 0)=a)) then (.inr (0,(rc,rp,qn,qc,qp,qx))) else (bif (inB (qx 0) (np:Int).toNat) then (bif (!((decide ((qc 0)=(rc (qx 0).toNat))) && ((decide ((qp 0)=(rp (qx 0).toNat))) && true))) then (.inl ((fun v=>(rc v)),(fun v=>(rp v)),(qn - 1),(fun v=>((poT qn qc qp qx).1 v)),(fun v=>((poT qn qc qp qx).2.1 v)),(fun v=>((poT qn qc qp qx).2.2 v)))) else (bif (inB (qx 0) np) then (bif (gSt (hsi N np ln lt lc a b 0 (qc 0) (qp 0) (qx 0) (fun v=>(rc v)) (fun v=>(rp v)) (qn - 1) (fun v=>((poT qn qc qp qx).1 v)) (fun v=>((poT qn qc qp qx).2.1 v)) (fun v=>((poT qn qc qp qx).2.2 v))) (hsi N np ln lt lc a b 0 (qc 0) (qp 0) (qx 0) (fun v=>(rc v)) (fun v=>(rp v)) (qn - 1) (fun v=>((poT qn qc qp qx).1 v)) (fun v=>((poT qn qc qp qx).2.1 v)) (fun v=>((poT qn qc qp qx).2.2 v)))) then (bif (qJI N np ln lt lc (0,(qc 0),(qp 0),(qx 0),(fun v=>(rc v)),(fun v=>(rp v)),(qn - 1),(fun v=>((poT qn qc qp qx).1 v)),(fun v=>((poT qn qc qp qx).2.1 v)),(fun v=>((poT qn qc qp qx).2.2 v)))) then (bif (Nat.beq (qQG N np ln lt lc (0,(qc 0),(qp 0),(qx 0),(fun v=>(rc v)),(fun v=>(rp v)),(qn - 1),(fun v=>((poT qn qc qp qx).1 v)),(fun v=>((poT qn qc qp qx).2.1 v)),(fun v=>((poT qn qc qp qx).2.2 v)))).1 0) then (.inl ((fun v=>((qQG N np ln lt lc (0,(qc 0),(qp 0),(qx 0),(fun v=>(rc v)),(fun v=>(rp v)),(qn - 1),(fun v=>((poT qn qc qp qx).1 v)),(fun v=>((poT qn qc qp qx).2.1 v)),(fun v=>((poT qn qc qp qx).2.2 v)))).2.2.2.2.2.1 v)),(fun v=>((qQG N np ln lt lc (0,(qc 0),(qp 0),(qx 0),(fun v=>(rc v)),(fun v=>(rp v)),(qn - 1),(fun v=>((poT qn qc qp qx).1 v)),(fun v=>((poT qn qc qp qx).2.1 v)),(fun v=>((poT qn qc qp qx).2.2 v)))).2.2.2.2.2.2.1 v)),(qQG N np ln lt lc (0,(qc 0),(qp 0),(qx 0),(fun v=>(rc v)),(fun v=>(rp v)),(qn - 1),(fun v=>((poT qn qc qp qx).1 v)),(fun v=>((poT qn qc qp qx).2.1 v)),(fun v=>((poT qn qc qp qx).2.2 v)))).2.2.2.2.2.2.2.1,(fun v=>((qQG N np ln lt lc (0,(qc 0),(qp 0),(qx 0),(fun v=>(rc v)),(fun v=>(rp v)),(qn - 1),(fun v=>((poT qn qc qp qx).1 v)),(fun v=>((poT qn qc qp qx).2.1 v)),(fun v=>((poT qn qc qp qx).2.2 v)))).2.2.2.2.2.2.2.2.1 v)),(fun v=>((qQG N np ln lt lc (0,(qc 0),(qp 0),(qx 0),(fun v=>(rc v)),(fun v=>(rp v)),(qn - 1),(fun v=>((poT qn qc qp qx).1 v)),(fun v=>((poT qn qc qp qx).2.1 v)),(fun v=>((poT qn qc qp qx).2.2 v)))).2.2.2.2.2.2.2.2.2.1 v)),(fun v=>((qQG N np ln lt lc (0,(qc 0),(qp 0),(qx 0),(fun v=>(rc v)),(fun v=>(rp v)),(qn - 1),(fun v=>((poT qn qc qp qx).1 v)),(fun v=>((poT qn qc qp qx).2.1 v)),(fun v=>((poT qn qc qp qx).2.2 v)))).2.2.2.2.2.2.2.2.2.2 v)))) else (.inr (1,(rc,rp,qn,qc,qp,qx)))) else (.inr (1,(rc,rp,qn,qc,qp,qx)))) else (.inr (1,(rc,rp,qn,qc,qp,qx)))) else (.inr (1,(rc,rp,qn,qc,qp,qx))))) else (.inr (1,(rc,rp,qn,qc,qp,qx))))) else (.inr (1,(rc,rp,qn,qc,qp,qx)))) else (.inr (0,(rc,rp,qn,qc,qp,qx))))
noncomputable def kxst (N np:Nat) (ln:Nat→Nat) (lt lc:Nat→Nat→Int) (a b:Int) (K:Cont) (w9:Nat × (Nat→Int) × (Nat→Int) × Nat × (Nat→Int) × (Nat→Int) × (Nat→Int)):Option (Ret × Mem):=bif Nat.beq w9.1 0 then (K (.exit 0) ⟨[(0,.v (.lf np (fun u=>[.lf (ln u) (fun w=>[.n .i64 (lt u w),.n .i64 (lc u w)])]))),(1,.v (.n .i64 a)),(2,.v (.n .i64 b)),(6,.p 6 0),(8,.p 8 0)],[(6,.blk [.nl,.v (.n .i64 0)]),(8,.blk [.o 19]),(19,.reg 96 2 (.fo (np:Int).toNat (fun v=>[.n .i64 (w9.2.1 v),.n .i64 (w9.2.2.1 v)])))]⟩) else none
theorem wlst (K:Cont) (N np:Nat) (ln:Nat→Nat) (lt lc:Nat→Nat→Int) (a b:Int):∀ n9 (t:((Nat→Int) × (Nat→Int) × Nat × (Nat→Int) × (Nat→Int) × (Nat→Int))),LFX N (cxS Tf (orst N np ln lt lc a b) N 55 (ntmF Tf 55)) (evX Tf (orst N np ln lt lc a b) N 55 (ntmF Tf 55)) (qY [([0,1,1,1,0,1,0,0,0,1,1,1,1,0,1],sumF (fun t:(Int × Int × Int × Int × (Nat→Int) × (Nat→Int) × Nat × (Nat→Int) × (Nat→Int) × (Nat→Int))=>(hsi N np ln lt lc a b t.1 t.2.1 t.2.2.1 t.2.2.2.1 t.2.2.2.2.1 t.2.2.2.2.2.1 t.2.2.2.2.2.2.1 t.2.2.2.2.2.2.2.1 t.2.2.2.2.2.2.2.2.1 t.2.2.2.2.2.2.2.2.2)) (fun σ=>(slI σ 55,bkC σ 10 0,bkC σ 10 1,bkC σ 10 2,rgI σ 19 0,rgI σ 19 1,rgN σ 30,rgI σ 30 0,rgI σ 30 1,rgI σ 30 2)) (fun t K=>(bif qJI N np ln lt lc t then kxsi N np ln lt lc a b K (qQG N np ln lt lc t) else none)))]) (qQ Tf 55 [0,0,1,1,1,1,0,1]) [0,0,1,1,1,1,0,1] (Tf.hint 55 (qJ (qQ Tf 55 [0,0,1,1,1,1,0,1]))) K n9 (hst N np ln lt lc a b t.1 t.2.1 t.2.2.1 t.2.2.2.1 t.2.2.2.2.1 t.2.2.2.2.2)=(qU (dcst N np ln lt lc a b) n9 t).bind (kxst N np ln lt lc a b K):=fun n9 t=>by
 refine kG (L:=LFX N (cxS Tf (orst N np ln lt lc a b) N 55 (ntmF Tf 55)) (evX Tf (orst N np ln lt lc a b) N 55 (ntmF Tf 55)) (qY [([0,1,1,1,0,1,0,0,0,1,1,1,1,0,1],sumF (fun t:(Int × Int × Int × Int × (Nat→Int) × (Nat→Int) × Nat × (Nat→Int) × (Nat→Int) × (Nat→Int))=>(hsi N np ln lt lc a b t.1 t.2.1 t.2.2.1 t.2.2.2.1 t.2.2.2.2.1 t.2.2.2.2.2.1 t.2.2.2.2.2.2.1 t.2.2.2.2.2.2.2.1 t.2.2.2.2.2.2.2.2.1 t.2.2.2.2.2.2.2.2.2)) (fun σ=>(slI σ 55,bkC σ 10 0,bkC σ 10 1,bkC σ 10 2,rgI σ 19 0,rgI σ 19 1,rgN σ 30,rgI σ 30 0,rgI σ 30 1,rgI σ 30 2)) (fun t K=>(bif qJI N np ln lt lc t then kxsi N np ln lt lc a b K (qQG N np ln lt lc t) else none)))]) (qQ Tf 55 [0,0,1,1,1,1,0,1]) [0,0,1,1,1,1,0,1] (Tf.hint 55 (qJ (qQ Tf 55 [0,0,1,1,1,1,0,1]))) K) (stp:=zH N (cxS Tf (orst N np ln lt lc a b) N 55 (ntmF Tf 55)) (evX Tf (orst N np ln lt lc a b) N 55 (ntmF Tf 55)) (qY [([0,1,1,1,0,1,0,0,0,1,1,1,1,0,1],sumF (fun t:(Int × Int × Int × Int × (Nat→Int) × (Nat→Int) × Nat × (Nat→Int) × (Nat→Int) × (Nat→Int))=>(hsi N np ln lt lc a b t.1 t.2.1 t.2.2.1 t.2.2.2.1 t.2.2.2.2.1 t.2.2.2.2.2.1 t.2.2.2.2.2.2.1 t.2.2.2.2.2.2.2.1 t.2.2.2.2.2.2.2.2.1 t.2.2.2.2.2.2.2.2.2)) (fun σ=>(slI σ 55,bkC σ 10 0,bkC σ 10 1,bkC σ 10 2,rgI σ 19 0,rgI σ 19 1,rgN σ 30,rgI σ 30 0,rgI σ 30 1,rgI σ 30 2)) (fun t K=>(bif qJI N np ln lt lc t then kxsi N np ln lt lc a b K (qQG N np ln lt lc t) else none)))]) (qQ Tf 55 [0,0,1,1,1,1,0,1]) [0,0,1,1,1,1,0,1] (Tf.hint 55 (qJ (qQ Tf 55 [0,0,1,1,1,1,0,1]))) K) (fun _ _=>rfl) (fun _=>rfl) (fun t=>hst N np ln lt lc a b t.1 t.2.1 t.2.2.1 t.2.2.2.1 t.2.2.2.2.1 t.2.2.2.2.2) (fun _=>True) (dcst N np ln lt lc a b) (kxst N np ln lt lc a b K) (fun G t _ => ?_) (fun _ _ _ _=>trivial) n9 t trivial;obtain ⟨rc,rp,qn,qc,qp,qx⟩:=t;refine (rdst G K N np ln lt lc a b rc rp qn qc qp qx).trans ?_;dsimp only [dcst];cases (decide (0 < (qn:Int)))
 ·rfl
 ·cases (gB1 cpo hpo epo (qn,qc,qp,qx))
  ·rfl
  ·cases (decide ((qx 0)=a))
   ·cases (inB (qx 0) (np:Int).toNat)
    ·rfl
    ·cases (!((decide ((qc 0)=(rc (qx 0).toNat))) && ((decide ((qp 0)=(rp (qx 0).toNat))) && true)))
     ·cases (inB (qx 0) np)
      ·rfl
      ·cases (gSt (hsi N np ln lt lc a b 0 (qc 0) (qp 0) (qx 0) (fun v=>(rc v)) (fun v=>(rp v)) (qn - 1) (fun v=>((poT qn qc qp qx).1 v)) (fun v=>((poT qn qc qp qx).2.1 v)) (fun v=>((poT qn qc qp qx).2.2 v))) (hsi N np ln lt lc a b 0 (qc 0) (qp 0) (qx 0) (fun v=>(rc v)) (fun v=>(rp v)) (qn - 1) (fun v=>((poT qn qc qp qx).1 v)) (fun v=>((poT qn qc qp qx).2.1 v)) (fun v=>((poT qn qc qp qx).2.2 v))))
       ·rfl
       ·cases (qJI N np ln lt lc (0,(qc 0),(qp 0),(qx 0),(fun v=>(rc v)),(fun v=>(rp v)),(qn - 1),(fun v=>((poT qn qc qp qx).1 v)),(fun v=>((poT qn qc qp qx).2.1 v)),(fun v=>((poT qn qc qp qx).2.2 v))))
        ·rfl
        ·cases (Nat.beq (qQG N np ln lt lc (0,(qc 0),(qp 0),(qx 0),(fun v=>(rc v)),(fun v=>(rp v)),(qn - 1),(fun v=>((poT qn qc qp qx).1 v)),(fun v=>((poT qn qc qp qx).2.1 v)),(fun v=>((poT qn qc qp qx).2.2 v)))).1 0)
         ·rfl
         ·rfl
     ·rfl
   ·rfl
def iz (b:Int):Nat→Int:=fun v=>(bif (Nat.beq v (b).toNat) then 0 else 0)
def io (b:Int):Nat→Int:=fun v=>(bif (Nat.beq v (b).toNat) then 1 else 0)
def jz (b:Int):Nat→Int:=fun _=>(bif (Nat.beq (b).toNat (b).toNat) then 0 else 0)
def jo (b:Int):Nat→Int:=fun _=>(bif (Nat.beq (b).toNat (b).toNat) then 1 else 0)
def jb (b:Int):Nat→Int:=fun _=>b
noncomputable def zWQ (N:Nat) (np:Nat) (ln:Nat→Nat) (lt lc:Nat→Nat→Int) (a b:Int) (t:((Nat→Int) × (Nat→Int) × Nat × (Nat→Int) × (Nat→Int) × (Nat→Int))):Bool:=(qU (dcst N np ln lt lc a b) N t).isSome
noncomputable def jV (N:Nat) (np:Nat) (ln:Nat→Nat) (lt lc:Nat→Nat→Int) (a b:Int) (t:((Nat→Int) × (Nat→Int) × Nat × (Nat→Int) × (Nat→Int) × (Nat→Int))):Nat × (Nat→Int) × (Nat→Int) × Nat × (Nat→Int) × (Nat→Int) × (Nat→Int):=(qU (dcst N np ln lt lc a b) N t).getD (99,t)
theorem lwst (K:Cont) (N np:Nat) (ln:Nat→Nat) (lt lc:Nat→Nat→Int) (a b:Int) (t:((Nat→Int) × (Nat→Int) × Nat × (Nat→Int) × (Nat→Int) × (Nat→Int))) (hg:zWQ N np ln lt lc a b t=true):LFX N (cxS Tf (orst N np ln lt lc a b) N 55 (ntmF Tf 55)) (evX Tf (orst N np ln lt lc a b) N 55 (ntmF Tf 55)) (qY [([0,1,1,1,0,1,0,0,0,1,1,1,1,0,1],sumF (fun t:(Int × Int × Int × Int × (Nat→Int) × (Nat→Int) × Nat × (Nat→Int) × (Nat→Int) × (Nat→Int))=>(hsi N np ln lt lc a b t.1 t.2.1 t.2.2.1 t.2.2.2.1 t.2.2.2.2.1 t.2.2.2.2.2.1 t.2.2.2.2.2.2.1 t.2.2.2.2.2.2.2.1 t.2.2.2.2.2.2.2.2.1 t.2.2.2.2.2.2.2.2.2)) (fun σ=>(slI σ 55,bkC σ 10 0,bkC σ 10 1,bkC σ 10 2,rgI σ 19 0,rgI σ 19 1,rgN σ 30,rgI σ 30 0,rgI σ 30 1,rgI σ 30 2)) (fun t K=>(bif qJI N np ln lt lc t then kxsi N np ln lt lc a b K (qQG N np ln lt lc t) else none)))]) (qQ Tf 55 [0,0,1,1,1,1,0,1]) [0,0,1,1,1,1,0,1] (Tf.hint 55 (qJ (qQ Tf 55 [0,0,1,1,1,1,0,1]))) K N (hst N np ln lt lc a b t.1 t.2.1 t.2.2.1 t.2.2.2.1 t.2.2.2.2.1 t.2.2.2.2.2)=kxst N np ln lt lc a b K (jV N np ln lt lc a b t):=by
 refine (wlst K N np ln lt lc a b N t).trans ?_;unfold zWQ at hg;unfold jV;cases h:qU (dcst N np ln lt lc a b) N t with
 | none=>rw [h] at hg; cases hg
 | some y=>rfl
noncomputable def hpa (N np:Nat) (ln:Nat→Nat) (lt lc:Nat→Nat→Int) (a b:Int) (cv:Int) (co:Int) (rc:Nat→Int) (rp:Nat→Int) (vn:Nat) (vf:Nat→Int):St:=⟨[(0,.v (.lf np (fun u=>[.lf (ln u) (fun w=>[.n .i64 (lt u w),.n .i64 (lc u w)])]))),(2,.v (.n .i64 b)),(6,.p 6 0),(8,.p 8 0),(14,.p 14 0),(15,.p 15 0)],[(6,.blk [.nl,.v (.n .i64 0)]),(8,.blk [.o 19]),(14,.blk [.o 96,.v (.n .i64 co)]),(15,.blk [.v (.n .i64 cv)]),(19,.reg 96 2 (.fo (np:Int).toNat (fun v=>[.n .i64 (rc v),.n .i64 (rp v)]))),(96,.reg 3 1 (.fo vn (fun v=>[.n .i64 (vf v)])))]⟩
set_option maxRecDepth 100000 in
theorem rdpa (G:St→Option (Ret × Mem)) (K:Cont) (N np:Nat) (ln:Nat→Nat) (lt lc:Nat→Nat→Int) (a b:Int) (cv:Int) (co:Int) (rc:Nat→Int) (rp:Nat→Int) (vn:Nat) (vf:Nat→Int):zH N (cxS Tf (orst N np ln lt lc a b) N 55 (ntmF Tf 55)) (evX Tf (orst N np ln lt lc a b) N 55 (ntmF Tf 55)) (qY []) (qQ Tf 55 [0,1,0,1,1,1,1,1,1,1,0,1]) [0,1,0,1,1,1,1,1,1,1,0,1] (Tf.hint 55 (qJ (qQ Tf 55 [0,1,0,1,1,1,1,1,1,1,0,1]))) K G (hpa N np ln lt lc a b cv co rc rp vn vf) =
 (bif (!decide (cv=b)) then (bif (inB cv np) then (bif (gF1 cix eix ((ln (cv).toNat),(lt (cv).toNat),(lc (cv).toNat),((np:Int).toNat),rc,rp,cv)) then (bif (inB cv np) then (bif (inB (ixI (ln (cv).toNat) (lt (cv).toNat) (lc (cv).toNat) rc rp cv) (ln (cv).toNat)) then (bif (decide (vn + 1≤1000000)) then (G (hpa N np ln lt lc a b (lt (cv).toNat ((ixI (ln (cv).toNat) (lt (cv).toNat) (lc (cv).toNat) rc rp cv)).toNat) co (fun v=>(rc v)) (fun v=>(rp v)) (vn + 1) (fun v=>(bif (Nat.beq v vn) then (lt (cv).toNat ((ixI (ln (cv).toNat) (lt (cv).toNat) (lc (cv).toNat) rc rp cv)).toNat) else (vf v)))))
 else none)
 else none)
 else none)
 else none)
 else none)
 else (K (.exit 5) ⟨[(6,.p 6 0),(14,.p 14 0)],[(6,.blk [.nl,.v (.n .i64 0)]),(14,.blk [.o 96,.v (.n .i64 co)]),(96,.reg 3 1 (.fo vn (fun v=>[.n .i64 (vf v)])))]⟩)):=by kernel_rfl
noncomputable def dcpa (np:Nat) (ln:Nat→Nat) (lt lc:Nat→Nat→Int) (b:Int):(Int × Int × (Nat→Int) × (Nat→Int) × Nat × (Nat→Int))→(Int × Int × (Nat→Int) × (Nat→Int) × Nat × (Nat→Int)) ⊕ (Nat × Int × Int × (Nat→Int) × (Nat→Int) × Nat × (Nat→Int)):=fun t=>match t with | (cv,co,rc,rp,vn,vf)=>(bif (!decide (cv=b)) then (bif (inB cv np) then (bif (gF1 cix eix ((ln (cv).toNat),(lt (cv).toNat),(lc (cv).toNat),((np:Int).toNat),rc,rp,cv)) then (bif (inB (ixI (ln (cv).toNat) (lt (cv).toNat) (lc (cv).toNat) rc rp cv) (ln (cv).toNat)) then (bif (decide (vn + 1≤1000000)) then (.inl ((lt (cv).toNat ((ixI (ln (cv).toNat) (lt (cv).toNat) (lc (cv).toNat) rc rp cv)).toNat),co,(fun v=>(rc v)),(fun v=>(rp v)),(vn + 1),(fun v=>(bif (Nat.beq v vn) then (lt (cv).toNat ((ixI (ln (cv).toNat) (lt (cv).toNat) (lc (cv).toNat) rc rp cv)).toNat) else (vf v))))) else (.inr (1,(cv,co,rc,rp,vn,vf)))) else (.inr (1,(cv,co,rc,rp,vn,vf)))) else (.inr (1,(cv,co,rc,rp,vn,vf)))) else (.inr (1,(cv,co,rc,rp,vn,vf)))) else (.inr (0,(cv,co,rc,rp,vn,vf))))
noncomputable def kxpa (N _:Nat) (_:Nat→Nat) (_ _:Nat→Nat→Int) (a b:Int) (K:Cont) (w9:Nat × Int × Int × (Nat→Int) × (Nat→Int) × Nat × (Nat→Int)):Option (Ret × Mem):=bif Nat.beq w9.1 0 then (K (.exit 5) ⟨[(6,.p 6 0),(14,.p 14 0)],[(6,.blk [.nl,.v (.n .i64 0)]),(14,.blk [.o 96,.v (.n .i64 w9.2.2.1)]),(96,.reg 3 1 (.fo w9.2.2.2.2.2.1 (fun v=>[.n .i64 (w9.2.2.2.2.2.2 v)])))]⟩) else none
theorem wlpa (K:Cont) (N np:Nat) (ln:Nat→Nat) (lt lc:Nat→Nat→Int) (a b:Int):∀ n9 (t:(Int × Int × (Nat→Int) × (Nat→Int) × Nat × (Nat→Int))),LFX N (cxS Tf (orst N np ln lt lc a b) N 55 (ntmF Tf 55)) (evX Tf (orst N np ln lt lc a b) N 55 (ntmF Tf 55)) (qY []) (qQ Tf 55 [0,1,0,1,1,1,1,1,1,1,0,1]) [0,1,0,1,1,1,1,1,1,1,0,1] (Tf.hint 55 (qJ (qQ Tf 55 [0,1,0,1,1,1,1,1,1,1,0,1]))) K n9 (hpa N np ln lt lc a b t.1 t.2.1 t.2.2.1 t.2.2.2.1 t.2.2.2.2.1 t.2.2.2.2.2)=(qU (dcpa np ln lt lc b) n9 t).bind (kxpa N np ln lt lc a b K):=fun n9 t=>by
 refine kG (L:=LFX N (cxS Tf (orst N np ln lt lc a b) N 55 (ntmF Tf 55)) (evX Tf (orst N np ln lt lc a b) N 55 (ntmF Tf 55)) (qY []) (qQ Tf 55 [0,1,0,1,1,1,1,1,1,1,0,1]) [0,1,0,1,1,1,1,1,1,1,0,1] (Tf.hint 55 (qJ (qQ Tf 55 [0,1,0,1,1,1,1,1,1,1,0,1]))) K) (stp:=zH N (cxS Tf (orst N np ln lt lc a b) N 55 (ntmF Tf 55)) (evX Tf (orst N np ln lt lc a b) N 55 (ntmF Tf 55)) (qY []) (qQ Tf 55 [0,1,0,1,1,1,1,1,1,1,0,1]) [0,1,0,1,1,1,1,1,1,1,0,1] (Tf.hint 55 (qJ (qQ Tf 55 [0,1,0,1,1,1,1,1,1,1,0,1]))) K) (fun _ _=>rfl) (fun _=>rfl) (fun t=>hpa N np ln lt lc a b t.1 t.2.1 t.2.2.1 t.2.2.2.1 t.2.2.2.2.1 t.2.2.2.2.2) (fun _=>True) (dcpa np ln lt lc b) (kxpa N np ln lt lc a b K) (fun G t _ => ?_) (fun _ _ _ _=>trivial) n9 t trivial;obtain ⟨cv,co,rc,rp,vn,vf⟩:=t;refine (rdpa G K N np ln lt lc a b cv co rc rp vn vf).trans ?_;dsimp only [dcpa];cases (!decide (cv=b))
 ·rfl
 ·cases (inB cv np)
  ·rfl
  ·cases (gF1 cix eix ((ln (cv).toNat),(lt (cv).toNat),(lc (cv).toNat),((np:Int).toNat),rc,rp,cv))
   ·rfl
   ·cases (inB (ixI (ln (cv).toNat) (lt (cv).toNat) (lc (cv).toNat) rc rp cv) (ln (cv).toNat))
    ·rfl
    ·cases (decide (vn + 1≤1000000))
     ·rfl
     ·rfl
noncomputable def zWK (N:Nat) (np:Nat) (ln:Nat→Nat) (lt lc:Nat→Nat→Int) (b:Int) (t:(Int × Int × (Nat→Int) × (Nat→Int) × Nat × (Nat→Int))):Bool:=(qU (dcpa np ln lt lc b) N t).isSome
noncomputable def qUZ (N:Nat) (np:Nat) (ln:Nat→Nat) (lt lc:Nat→Nat→Int) (b:Int) (t:(Int × Int × (Nat→Int) × (Nat→Int) × Nat × (Nat→Int))):Nat × Int × Int × (Nat→Int) × (Nat→Int) × Nat × (Nat→Int):=(qU (dcpa np ln lt lc b) N t).getD (99,t)
theorem lwpa (K:Cont) (N np:Nat) (ln:Nat→Nat) (lt lc:Nat→Nat→Int) (a b:Int) (t:(Int × Int × (Nat→Int) × (Nat→Int) × Nat × (Nat→Int))) (hg:zWK N np ln lt lc b t=true):LFX N (cxS Tf (orst N np ln lt lc a b) N 55 (ntmF Tf 55)) (evX Tf (orst N np ln lt lc a b) N 55 (ntmF Tf 55)) (qY []) (qQ Tf 55 [0,1,0,1,1,1,1,1,1,1,0,1]) [0,1,0,1,1,1,1,1,1,1,0,1] (Tf.hint 55 (qJ (qQ Tf 55 [0,1,0,1,1,1,1,1,1,1,0,1]))) K N (hpa N np ln lt lc a b t.1 t.2.1 t.2.2.1 t.2.2.2.1 t.2.2.2.2.1 t.2.2.2.2.2)=kxpa N np ln lt lc a b K (qUZ N np ln lt lc b t):=by
 refine (wlpa K N np ln lt lc a b N t).trans ?_;unfold zWK at hg;unfold qUZ;cases h:qU (dcpa np ln lt lc b) N t with
 | none=>rw [h] at hg; cases hg
 | some y=>rfl
end Go.Proofs.Ytglkkhpdbfacfaa.Bg
namespace Go.Proofs.Ytglkkhpdbfacfaa.Bi
open Go.Rx Rt Go.Sx Go.RowKit Ba Bb Bc Bd Be Bf Bh Bg
structure LOk (np:Nat) (ln:Nat→Nat) (lt lc:Nat→Nat→Int):Prop where
 hnp:np≤100
 hln:∀ u,u < np→ln u≤1000
 hto:∀ u w,u < np→w < ln u→0≤lt u w∧lt u w < (np:Int)
 hco:∀ u w,u < np→w < ln u→0≤lc u w∧lc u w≤1099511627776
inductive Wk (np:Nat) (ln:Nat→Nat) (lt lc:Nat→Nat→Int) (b:Nat):Nat→Int→Int→Prop
 | nil:Wk np ln lt lc b b 0 1
 | cons {x y w:Nat} {c p:Int} (h:Wk np ln lt lc b x c p) (hx:x < np) (hw:w < ln x) (hy:lt x w=(y:Int)):Wk np ln lt lc b y (c + lc x w) (p + 1)
theorem leR.add {a b c d k:Int} (_:leR a b c d):leR (a + k) (b + 1) (c + k) (d + 1):=by unfold leR at *; omega
theorem leR.up {a b k:Int} (_:0≤k):leR a b (a + k) (b + 1):=by unfold leR; omega
theorem leR.anti {a b c d:Int} (_:leR a b c d) (_:leR c d a b):a=c∧b=d:=by unfold leR at *; omega
theorem leR.not_up {a b c d k:Int} (_:leR (a + k) (b + 1) c d) (_:leR c d a b) (_:0≤k):False:=by unfold leR at *; omega
theorem jGU {a b c d:Int} (h:leR c d a b) (_:0 < d):btB a b c d=false:=by
 cases hb:btB a b c d with
 | false=>rfl
 | true =>
  exfalso;unfold btB at hb;simp only [Bool.or_eq_true,vQJ,decide_eq_true_eq] at hb;unfold leR at h; omega
theorem kYQ {a b c d:Int} (h:btB a b c d=false):d ≠ 0:=by
 intro e; subst e;unfold btB at h; simp at h
section
variable {np:Nat} {ln:Nat→Nat} {lt lc:Nat→Nat→Int} {b:Nat}
theorem Wk.bd (hl:LOk np ln lt lc) {x:Nat} {c p:Int} (h:Wk np ln lt lc b x c p):0≤c∧1≤p∧c≤(p - 1) * 1099511627776:=by
 induction h with
 | nil=>omega
 | cons h hx hw hy ih =>
  have:=hl.hco _ _ hx hw
  omega
theorem Wk.one (hl:LOk np ln lt lc) {x:Nat} {c p:Int} (h:Wk np ln lt lc b x c p) (_:p=1):x=b∧c=0:=by
 cases h with
 | nil=>exact ⟨rfl,rfl⟩
 | cons h hx hw hy=>have:=h.bd hl; omega
theorem Wk.ltn (hl:LOk np ln lt lc) (hb:b < np) {x:Nat} {c p:Int} (h:Wk np ln lt lc b x c p):x < np:=by
 cases h with
 | nil=>exact hb
 | cons h hx hw hy=>have:=hl.hto _ _ hx hw; omega
def cntS (s:Nat→Bool):Nat→Nat
 | 0=>0
 | n + 1=>(bif s n then 1 else 0) + cntS s n
def setS (s:Nat→Bool) (x:Nat):Nat→Bool:=fun v=>bif Nat.beq v x then true else s v
theorem qWQ (s:Nat→Bool) (x:Nat):setS s x x=true:=by unfold setS; rw [Nat.beq_refl]; rfl
theorem qYW {s:Nat→Bool} {x v:Nat} (h:v ≠ x):setS s x v=s v:=by unfold setS; rw [uH,vYY h]; rfl
theorem zJG {s:Nat→Bool} {x v:Nat} (h:s v=true):setS s x v=true:=by
 by_cases e:v=x
 ·subst e; exact qWQ _ _
 ·rw [qYW e]; exact h
theorem zQE (s:Nat→Bool):∀ n,cntS s n≤n
 | 0=>Nat.le_refl _
 | n + 1=>by
  have:=zQE s n
  unfold cntS; cases s n <;> simp <;> omega
theorem yHF {s:Nat→Bool} {x:Nat}:∀ n,n≤x→cntS (setS s x) n=cntS s n
 | 0,_=>rfl
 | n + 1,h=>by unfold cntS; rw [qYW (by omega),yHF n (by omega)]
theorem zYF {s:Nat→Bool} {x:Nat} (hs:s x=false):∀ n,x < n→cntS (setS s x) n=cntS s n + 1
 | 0,h=>by omega
 | n + 1,h=>by
  unfold cntS;by_cases e:n=x
  ·subst e; rw [qWQ,hs,yHF n (Nat.le_refl _)]; simp; omega
  ·rw [qYW e,zYF hs n (by omega)]; omega
structure II (np:Nat) (ln:Nat→Nat) (lt lc:Nat→Nat→Int) (b:Nat) (S:Nat→Bool) (x j B:Nat) (rc rp:Nat→Int) (qn:Nat) (qc qp qx:Nat→Int):Prop where
 q:QOk qn qc qp
 qb:qn≤B + (if S x=true then 0 else j)
 ent:∀ k,k < qn→∃ y,y < np∧qx k=(y:Int)∧Wk np ln lt lc b y (qc k) (qp k)∧qp k≤1 + (cntS (setS S x) np:Int)∧0 < rp y∧leR (rc y) (rp y) (qc k) (qp k)
 rk:∀ v,v < np→(rp v=0∧setS S x v=false) ∨ (0 < rp v∧Wk np ln lt lc b v (rc v) (rp v))
 live:∀ v,v < np→0 < rp v→setS S x v=false→∃ k,k < qn∧qc k=rc v∧qp k=rp v∧qx k=(v:Int)
 cl:∀ u w y,u < np→S u=true→w < ln u→lt u w=((y:Nat):Int)→0 < rp y∧leR (rc y) (rp y) (rc u + lc u w) (rp u + 1)
 clx:∀ w y,w < j→w < ln x→lt x w=((y:Nat):Int)→0 < rp y∧leR (rc y) (rp y) (rc x + lc x w) (rp x + 1)
 mono:∀ u k,u < np→setS S x u=true→k < qn→leR (rc u) (rp u) (qc k) (qp k)
 base:∀ u,u < np→setS S x u=true→leR (rc u) (rp u) (rc x) (rp x)
 src:rc b=0∧rp b=1
 px:rp x≤1 + (cntS S np:Int)
 rb:∀ v,v < np→rp v≤1 + (cntS (setS S x) np:Int)
def setF (f:Nat→Int) (y:Nat) (z:Int):Nat→Int:=fun v=>bif Nat.beq v y then z else f v
theorem yU (f:Nat→Int) (y:Nat) (z:Int):setF f y z y=z:=by unfold setF; rw [Nat.beq_refl]; rfl
theorem zY {f:Nat→Int} {y v:Nat} {z:Int} (h:v ≠ y):setF f y z v=f v:=by unfold setF; rw [uH,vYY h]; rfl
theorem II.skip {S:Nat→Bool} {x j B:Nat} {rc rp:Nat→Int} {qn:Nat} {qc qp qx:Nat→Int} (hl:LOk np ln lt lc) (hx:x < np) (h:II np ln lt lc b S x j B rc rp qn qc qp qx) (hj:j < ln x) {y:Nat} (_:lt x j=(y:Int)) (hb:btB (rc x + lc x j) (rp x + 1) (rc y) (rp y)=false):II np ln lt lc b S x (j + 1) B rc rp qn qc qp qx:=by
 have hyn:y < np:=by have:=hl.hto x j hx hj; omega
 refine { h with qb:=by have:=h.qb; cases hs:S x <;> simp [hs] at this ⊢ <;> omega,clx:=fun w z hw hwl hz => ?_ };by_cases e:w=j
 ·subst e;obtain rfl:z=y:=by omega
  have h0:=kYQ hb;rcases h.rk z hyn with ⟨h1,_⟩ | ⟨h1,_⟩
  ·exact absurd h1 h0
  ·exact ⟨h1,bt_f hb⟩
 ·exact h.clx w z (by omega) hwl hz
theorem II.push {S:Nat→Bool} {x j B:Nat} {rc rp:Nat→Int} {qn:Nat} {qc qp qx:Nat→Int} (hl:LOk np ln lt lc) (hx:x < np) (_:B≤100001) (h:II np ln lt lc b S x j B rc rp qn qc qp qx) (hj:j < ln x) {y:Nat} (hy:lt x j=(y:Int)) (hb:btB (rc x + lc x j) (rp x + 1) (rc y) (rp y)=true) :
  qn + 1≤1000000∧0 < rp x + 1∧II np ln lt lc b S x (j + 1) B (setF rc y (rc x + lc x j)) (setF rp y (rp x + 1)) (qn + 1) (puT qn qc qp qx (rc x + lc x j) (rp x + 1) (y:Int)).1 (puT qn qc qp qx (rc x + lc x j) (rp x + 1) (y:Int)).2.1 (puT qn qc qp qx (rc x + lc x j) (rp x + 1) (y:Int)).2.2:=by
 have hyn:y < np:=by have:=hl.hto x j hx hj; omega
 have hc:=hl.hco x j hx hj;have hxr:0 < rp x∧Wk np ln lt lc b x (rc x) (rp x):=by
  rcases h.rk x hx with ⟨_,h2⟩ | h2
  ·rw [qWQ] at h2; cases h2
  ·exact h2
 have hwy:Wk np ln lt lc b y (rc x + lc x j) (rp x + 1):=.cons hxr.2 hx hj hy;have hSy:setS S x y=false:=by
  cases hs:setS S x y with
  | false=>rfl
  | true =>
   exfalso;have h1:0 < rp y:=by
    rcases h.rk y hyn with ⟨_,h2⟩ | h2
    ·rw [hs] at h2; cases h2
    ·exact h2.1
   have:=jGU ((h.base y hyn hs).trans (leR.up (k:=lc x j) hc.1)) h1
   rw [this] at hb; cases hb
 have hyx:y ≠ x:=fun e=>by rw [e,qWQ] at hSy; cases hSy
 have hSx:S x=false:=by
  cases hs:S x with
  | false=>rfl
  | true =>
   exfalso;obtain ⟨h1,h2⟩:=h.cl x j y hx hs hj hy;rw [jGU h2 h1] at hb; cases hb
 have hlx:=hl.hln x hx;have hqb:qn≤B + j:=by have:=h.qb; rw [hSx] at this; simpa using this
 have hn:qn + 1≤1000000:=by omega
 obtain ⟨_,_,p3,p4,p5,p6⟩:=zGQ (x:=qx) (ec:=rc x + lc x j) (ep:=rp x + 1) (ex:=(y:Int)) h.q hn (by omega);generalize puT qn qc qp qx (rc x + lc x j) (rp x + 1) (y:Int)=T at *;have hcnt:cntS (setS S x) np=cntS S np + 1:=zYF hSx np hx
 -- a rank gets no worse
 have hle:∀ v,0 < rp v→0 < setF rp y (rp x + 1) v∧leR (setF rc y (rc x + lc x j) v) (setF rp y (rp x + 1) v) (rc v) (rp v):=fun v hv=>by
  by_cases e:v=y
  ·subst e; rw [yU,yU]; exact ⟨by omega,bt_t hb hv⟩
  ·rw [zY e,zY e]; exact ⟨hv,leR.refl _ _⟩
 have hS:∀ u,setS S x u=true→setF rc y (rc x + lc x j) u=rc u∧setF rp y (rp x + 1) u=rp u:=fun u hu=>by
  have:u ≠ y:=fun e=>by rw [e,hSy] at hu; cases hu
  exact ⟨zY this,zY this⟩
 have hxx:=hS x (qWQ _ _);refine ⟨hn,by omega,{ q:=p3,qb:=by rw [hSx]; simp; omega,ent:=fun k hk => ?_,rk:=fun v hv => ?_,live:=fun v hv hr hs => ?_,cl:=fun u w z hu hs hw hz => ?_,clx:=fun w z hw hwl hz => ?_,mono:=fun u k hu hs hk => ?_,base:=fun u hu hs => ?_,src:=?_,px:=by rw [hxx.2]; exact h.px,rb:=fun v hv => ?_ }⟩
 ·rcases p4 k hk with ⟨e1,e2,e3⟩ | ⟨i,hi,e1,e2,e3⟩
  ·refine ⟨y,hyn,e3,by rw [e1,e2]; exact hwy,by rw [e2,hcnt]; have:=h.px; omega,?_,?_⟩
   ·rw [yU]; omega
   ·rw [yU,yU,e1,e2]; exact leR.refl _ _
  ·obtain ⟨z,z1,z2,z3,z4,z5,z6⟩:=h.ent i hi;obtain ⟨g1,g2⟩:=hle z z5;exact ⟨z,z1,e3.trans z2,by rw [e1,e2]; exact z3,by rw [e2]; exact z4,g1,by rw [e1,e2]; exact g2.trans z6⟩
 ·by_cases e:v=y
  ·subst e; rw [yU,yU]; exact .inr ⟨by omega,hwy⟩
  ·rw [zY e,zY e]; exact h.rk v hv
 ·by_cases e:v=y
  ·subst e;obtain ⟨k,hk,e1,e2,e3⟩:=p5;exact ⟨k,hk,by rw [e1,yU],by rw [e2,yU],e3⟩
  ·rw [zY e] at hr ⊢;rw [zY e];obtain ⟨k,hk,e1,e2,e3⟩:=h.live v hv hr hs;obtain ⟨i,hi,g1,g2,g3⟩:=p6 k hk;exact ⟨i,hi,by rw [← g1]; exact e1,by rw [← g2]; exact e2,by rw [← g3]; exact e3⟩
 ·obtain ⟨g1,g2⟩:=h.cl u w z hu hs hw hz;obtain ⟨g3,g4⟩:=hle z g1;obtain ⟨u1,u2⟩:=hS u (zJG hs);rw [u1,u2];exact ⟨g3,g4.trans g2⟩
 ·rw [hxx.1,hxx.2];by_cases e:w=j
  ·subst e;obtain rfl:z=y:=by omega
   rw [yU,yU];exact ⟨by omega,leR.refl _ _⟩
  ·obtain ⟨g1,g2⟩:=h.clx w z (by omega) hwl hz;obtain ⟨g3,g4⟩:=hle z g1;exact ⟨g3,g4.trans g2⟩
 ·obtain ⟨u1,u2⟩:=hS u hs;rw [u1,u2];rcases p4 k hk with ⟨e1,e2,_⟩ | ⟨i,hi,e1,e2,_⟩
  ·rw [e1,e2]; exact (h.base u hu hs).trans (leR.up hc.1)
  ·rw [e1,e2]; exact h.mono u i hu hs hi
 ·obtain ⟨u1,u2⟩:=hS u hs;rw [u1,u2,hxx.1,hxx.2]; exact h.base u hu hs
 ·have e:b ≠ y:=fun e=>by
   subst e;have h1:=h.src;rw [h1.1,h1.2] at hb
   have:=hxr.2.bd hl
   have h3:=bt_t hb (by omega);unfold leR at h3; omega
  rw [zY e,zY e]; exact h.src
 ·by_cases e:v=y
  ·subst e; rw [yU,hcnt]; have:=h.px; omega
  ·rw [zY e]; exact h.rb v hv
end
end Go.Proofs.Ytglkkhpdbfacfaa.Bi
namespace Go.Proofs.Ytglkkhpdbfacfaa.Bj
open Go.Rx Rt Go.Sx Go.RowKit Ba Bb Bc Bd Be Bf Bh Bg Bi
section
variable {np:Nat} {ln:Nat→Nat} {lt lc:Nat→Nat→Int} {b:Nat}
theorem qZG {y n:Nat} {z:Int} (h:z=(y:Int)) (hn:y < n):inB z n=true:=by subst h; exact zU hn
theorem yKB {x j y:Nat} {xc xp:Int} {rc rp:Nat→Int} {qn:Nat} {qc qp qx:Nat→Int} (hj:j < ln x) (_:ln x≤1000) (hy:lt x j=(y:Int)) (hyn:y < np)
  (hc : -9223372036854775808≤xc + lc x j∧xc + lc x j≤9223372036854775807) (hp : -9223372036854775808≤xp + 1∧xp + 1≤9223372036854775807) (hg:btB (xc + lc x j) (xp + 1) (rc y) (rp y)=true→QOk qn qc qp∧qn + 1≤1000000∧0 < xp + 1) :
  dcsi np ln lt lc ((j:Int),xc,xp,(x:Int),rc,rp,qn,qc,qp,qx)=bif btB (xc + lc x j) (xp + 1) (rc y) (rp y) then .inl (((j + 1:Nat):Int),xc,xp,(x:Int),setF rc y (xc + lc x j),setF rp y (xp + 1),qn + 1,(puT qn qc qp qx (xc + lc x j) (xp + 1) (y:Int)).1,(puT qn qc qp qx (xc + lc x j) (xp + 1) (y:Int)).2.1,(puT qn qc qp qx (xc + lc x j) (xp + 1) (y:Int)).2.2) else .inl (((j + 1:Nat):Int),xc,xp,(x:Int),rc,rp,qn,qc,qp,qx):=by
 dsimp only [dcsi];simp only [toN,hy,yH hc,yH hp,vYJ (show (j:Int) < ((ln x:Nat):Int) by omega),zU hj,zU hyn,kW (C:=cbt) (t:=_) trivial,uK (show j < 1000000 by omega),vYQ];cases hb:btB (xc + lc x j) (xp + 1) (rc y) (rp y) with
 | false=>rfl
 | true=>rw [qGL (C:=cpu) (t:=(qn,qc,qp,qx,xc + lc x j,xp + 1,(y:Int))) (hg hb)]; rfl
theorem yGW {x:Nat} {xc xp:Int} {rc rp:Nat→Int} {qn:Nat} {qc qp qx:Nat→Int}:dcsi np ln lt lc (((ln x:Nat):Int),xc,xp,(x:Int),rc,rp,qn,qc,qp,qx)=.inr (0,((ln x:Nat):Int),xc,xp,(x:Int),rc,rp,qn,qc,qp,qx):=by
 dsimp only [dcsi];rw [toN,vYY (by omega)]; rfl
theorem jJD (hl:LOk np ln lt lc) {S:Nat→Bool} {x B:Nat} (hx:x < np) (hB:B≤100001):∀ (d j N:Nat) (rc rp:Nat→Int) (qn:Nat) (qc qp qx:Nat→Int),ln x - j=d→j≤ln x→d < N→II np ln lt lc b S x j B rc rp qn qc qp qx →
  ∃ rc' rp' qn' qc' qp' qx',qU (dcsi np ln lt lc) N ((j:Int),rc x,rp x,(x:Int),rc,rp,qn,qc,qp,qx)=some (0,((ln x:Nat):Int),rc x,rp x,(x:Int),rc',rp',qn',qc',qp',qx')∧II np ln lt lc b S x (ln x) B rc' rp' qn' qc' qp' qx'
 | d,j,0,rc,rp,qn,qc,qp,qx,hd,hj,hN,h=>by omega
 | 0,j,N + 1,rc,rp,qn,qc,qp,qx,hd,hj,hN,h=>by
  obtain rfl:j=ln x:=by omega
  exact ⟨rc,rp,qn,qc,qp,qx,by rw [qU,yGW],h⟩
 | d + 1,j,N + 1,rc,rp,qn,qc,qp,qx,hd,hj,hN,h=>by
  have hjx:j < ln x:=by omega
  have hlx:=hl.hln x hx;have ht:=hl.hto x j hx hjx;have hc:=hl.hco x j hx hjx;obtain ⟨y,hy⟩:∃ y:Nat,lt x j=(y:Int):=⟨(lt x j).toNat,by omega⟩
  have hyn:y < np:=by omega
  have hxr:0 < rp x∧Wk np ln lt lc b x (rc x) (rp x):=by
   rcases h.rk x hx with ⟨_,h2⟩ | h2
   ·rw [qWQ] at h2; cases h2
   ·exact h2
  have hbd:=hxr.2.bd hl;have hpx:=h.px;have hcn:=zQE S np;have hnp:=hl.hnp;rw [qU,yKB hjx hlx hy hyn (by omega) (by omega) (fun hb=>⟨h.q,(h.push hl hx hB hjx hy hb).1,by omega⟩)];cases hb:btB (rc x + lc x j) (rp x + 1) (rc y) (rp y) with
  | false =>
   simp only [vYZ];exact jJD hl hx hB d (j + 1) N rc rp qn qc qp qx (by omega) (by omega) (by omega) (h.skip hl hx hjx hy hb)
  | true =>
   simp only [vYQ];have h2:=(h.push hl hx hB hjx hy hb).2.2;have e:=fun e:x=y=>by
    subst e;exact leR.not_up (bt_t hb hxr.1) (leR.refl _ _) hc.1
   have:=jJD hl hx hB d (j + 1) N _ _ _ _ _ _ (by omega) (by omega) (by omega) h2
   rw [zY e,zY e] at this;exact this
theorem zYI (s:Nat→Bool) (x:Nat):∀ n,cntS s n≤cntS (setS s x) n
 | 0=>Nat.le_refl _
 | n + 1=>by
  have:=zYI s x n
  unfold cntS;cases h:s n with
  | false=>simp; omega
  | true=>rw [zJG h]; simp; exact this
theorem zGF {s:Nat→Bool} {x:Nat} (h:s x=true):setS s x=s:=by
 funext v;by_cases e:v=x
 ·subst e; rw [qWQ,h]
 ·exact qYW e
structure DI (np:Nat) (ln:Nat→Nat) (lt lc:Nat→Nat→Int) (b:Nat) (S:Nat→Bool) (rc rp:Nat→Int) (qn:Nat) (qc qp qx:Nat→Int):Prop where
 q:QOk qn qc qp
 qb:qn≤1 + 1000 * cntS S np
 ent:∀ k,k < qn→∃ y,y < np∧qx k=((y:Nat):Int)∧Wk np ln lt lc b y (qc k) (qp k)∧qp k≤1 + (cntS S np:Int)∧0 < rp y∧leR (rc y) (rp y) (qc k) (qp k)
 rk:∀ v,v < np→(rp v=0∧S v=false) ∨ (0 < rp v∧Wk np ln lt lc b v (rc v) (rp v))
 live:∀ v,v < np→0 < rp v→S v=false→∃ k,k < qn∧qc k=rc v∧qp k=rp v∧qx k=(v:Int)
 cl:∀ u w y,u < np→S u=true→w < ln u→lt u w=((y:Nat):Int)→0 < rp y∧leR (rc y) (rp y) (rc u + lc u w) (rp u + 1)
 mono:∀ u k,u < np→S u=true→k < qn→leR (rc u) (rp u) (qc k) (qp k)
 src:rc b=0∧rp b=1
 rb:∀ v,v < np→rp v≤1 + (cntS S np:Int)
theorem DI.start {S:Nat→Bool} {rc rp:Nat→Int} {qn:Nat} {qc qp qx:Nat→Int} (h:DI np ln lt lc b S rc rp qn qc qp qx) (h1:1≤qn) {x:Nat} (_:x < np) (ex:qx 0=(x:Int)) (e1:qc 0=rc x) (e2:qp 0=rp x):II np ln lt lc b S x 0 (qn - 1) rc rp (qn - 1) (poT qn qc qp qx).1 (poT qn qc qp qx).2.1 (poT qn qc qp qx).2.2:=by
 obtain ⟨_,_,p3,p4,p5⟩:=zZV (x:=qx) h.q h1;generalize poT qn qc qp qx=T at *;have hmin:=zGU h.q.heap;obtain ⟨y,y1,y2,y3,y4,y5,y6⟩:=h.ent 0 (by omega);obtain rfl:y=x:=by omega
 refine ⟨p3,by split <;> omega,fun k hk => ?_,fun v hv => ?_,fun v hv hr hs => ?_,h.cl,fun w y hw=>absurd hw (by omega),fun u k hu hs hk => ?_,fun u hu hs => ?_,h.src,by omega,fun v hv=>by have:=zYI S y np; have:=h.rb v hv; omega⟩
 ·obtain ⟨i,hi,g1,g2,g3⟩:=p4 k hk;obtain ⟨z,z1,z2,z3,z4,z5,z6⟩:=h.ent i hi
  have:=zYI S y np
  exact ⟨z,z1,g3.trans z2,by rw [g1,g2]; exact z3,by rw [g2]; omega,z5,by rw [g1,g2]; exact z6⟩
 ·rcases h.rk v hv with ⟨r1,r2⟩ | r
  ·by_cases e:v=y
   ·subst e; omega
   ·exact .inl ⟨r1,by rw [qYW e]; exact r2⟩
  ·exact .inr r
 ·have e:v ≠ y:=fun e=>by rw [e,qWQ] at hs; cases hs
  rw [qYW e] at hs;obtain ⟨k,hk,g1,g2,g3⟩:=h.live v hv hr hs;rcases p5 k hk with rfl | ⟨i,hi,f1,f2,f3⟩
  ·omega
  ·exact ⟨i,hi,by rw [← f1]; exact g1,by rw [← f2]; exact g2,by rw [← f3]; exact g3⟩
 ·obtain ⟨i,hi,g1,g2,_⟩:=p4 k hk;rw [g1,g2];by_cases e:u=y
  ·subst e; rw [← e1,← e2]; exact hmin i hi
  ·rw [qYW e] at hs; exact h.mono u i hu hs hi
 ·by_cases e:u=y
  ·subst e; exact leR.refl _ _
  ·rw [qYW e] at hs; rw [← e1,← e2]; exact h.mono u 0 hu hs (by omega)
theorem II.done {S:Nat→Bool} {x B:Nat} {rc rp:Nat→Int} {qn:Nat} {qc qp qx:Nat→Int} (hl:LOk np ln lt lc) (hx:x < np) (h:II np ln lt lc b S x (ln x) B rc rp qn qc qp qx) (_:B≤1000 * cntS S np):DI np ln lt lc b (setS S x) rc rp qn qc qp qx:=by
 have hlx:=hl.hln x hx;refine ⟨h.q,?_,h.ent,h.rk,h.live,fun u w y hu hs hw hy => ?_,h.mono,h.src,h.rb⟩
 ·have:=h.qb
  cases hs:S x with
  | true=>rw [hs] at this; rw [zGF hs]; simp at this; omega
  | false=>rw [hs] at this; rw [zYF hs np hx]; simp at this; omega
 ·by_cases e:u=x
  ·subst e; exact h.clx w y hw hw hy
  ·rw [qYW e] at hs; exact h.cl u w y hu hs hw hy
theorem DI.stale {S:Nat→Bool} {rc rp:Nat→Int} {qn:Nat} {qc qp qx:Nat→Int} (h:DI np ln lt lc b S rc rp qn qc qp qx) (h1:1≤qn) {x:Nat} (ex:qx 0=(x:Int)) (hne:¬ (qc 0=rc x∧qp 0=rp x)):DI np ln lt lc b S rc rp (qn - 1) (poT qn qc qp qx).1 (poT qn qc qp qx).2.1 (poT qn qc qp qx).2.2:=by
 obtain ⟨_,_,p3,p4,p5⟩:=zZV (x:=qx) h.q h1;generalize poT qn qc qp qx=T at *;refine ⟨p3,by have:=h.qb; omega,fun k hk => ?_,h.rk,fun v hv hr hs => ?_,h.cl,fun u k hu hs hk => ?_,h.src,h.rb⟩
 ·obtain ⟨i,hi,g1,g2,g3⟩:=p4 k hk;obtain ⟨z,z1,z2,z3,z4,z5,z6⟩:=h.ent i hi;exact ⟨z,z1,g3.trans z2,by rw [g1,g2]; exact z3,by rw [g2]; omega,z5,by rw [g1,g2]; exact z6⟩
 ·obtain ⟨k,hk,g1,g2,g3⟩:=h.live v hv hr hs;rcases p5 k hk with rfl | ⟨i,hi,f1,f2,f3⟩
  ·have e:v=x:=by omega
   subst e;exact absurd ⟨g1,g2⟩ hne
  ·exact ⟨i,hi,by rw [← f1]; exact g1,by rw [← f2]; exact g2,by rw [← f3]; exact g3⟩
 ·obtain ⟨i,hi,g1,g2,_⟩:=p4 k hk;rw [g1,g2]; exact h.mono u i hu hs hi
end
end Go.Proofs.Ytglkkhpdbfacfaa.Bj
namespace Go.Proofs.Ytglkkhpdbfacfaa.Bk
open Go.Rx Rt Go.Sx Go.RowKit Ba Bb Bc Bd Be Bf Bh Bg Bi Bj
section
variable {np:Nat} {ln:Nat→Nat} {lt lc:Nat→Nat→Int} {b:Nat}
abbrev Rks:=(Nat→Int) × (Nat→Int) × Nat × (Nat→Int) × (Nat→Int) × (Nat→Int)
theorem yGU {N:Nat} {a B:Int} {rc rp:Nat→Int} {qc qp qx:Nat→Int}:dcst N np ln lt lc a B (rc,rp,0,qc,qp,qx)=.inr (0,rc,rp,0,qc,qp,qx):=by
 dsimp only [dcst];rw [vYY (show ¬ (0:Int) < ((0:Nat):Int) by omega)]; rfl
theorem yGX {N:Nat} {a B:Int} {rc rp:Nat→Int} {qn:Nat} {qc qp qx:Nat→Int} (hq:QOk qn qc qp) (h1:1≤qn) (ha:qx 0=a):dcst N np ln lt lc a B (rc,rp,qn,qc,qp,qx)=.inr (0,rc,rp,qn,qc,qp,qx):=by
 dsimp only [dcst];rw [vYJ (show (0:Int) < (qn:Int) by omega),qGL (C:=cpo) (t:=(qn,qc,qp,qx)) ⟨hq,h1⟩,vYJ ha]; rfl
theorem yZW {N x:Nat} {a B:Int} {rc rp:Nat→Int} {qn:Nat} {qc qp qx:Nat→Int} (hq:QOk qn qc qp) (h1:1≤qn) (ha:qx 0 ≠ a) (ex:qx 0=(x:Int)) (hx:x < np) (hne:¬ (qc 0=rc x∧qp 0=rp x)) :
  dcst N np ln lt lc a B (rc,rp,qn,qc,qp,qx)=.inl (rc,rp,qn - 1,(poT qn qc qp qx).1,(poT qn qc qp qx).2.1,(poT qn qc qp qx).2.2):=by
 have e:(!((decide ((qc 0)=(rc (qx 0).toNat))) && ((decide ((qp 0)=(rp (qx 0).toNat))) && true)))=true:=by
  rw [ex,toN];by_cases e1:qc 0=rc x
  ·have e2:¬ qp 0=rp x:=fun e2=>hne ⟨e1,e2⟩
   rw [vYY e2]; simp
  ·rw [vYY e1]; rfl
 dsimp only [dcst];rw [vYJ (show (0:Int) < (qn:Int) by omega),qGL (C:=cpo) (t:=(qn,qc,qp,qx)) ⟨hq,h1⟩,vYY ha,e,toN,qZG ex hx]; rfl
theorem yKA {N x:Nat} {a B:Int} {rc rp:Nat→Int} {qn:Nat} {qc qp qx:Nat→Int} (hq:QOk qn qc qp) (h1:1≤qn) (ha:qx 0 ≠ a) (ex:qx 0=(x:Int)) (hx:x < np) (e1:qc 0=rc x) (e2:qp 0=rp x) {j:Int} {c p:Int} {y:Int} {s:Rks}
  (hi:qU (dcsi np ln lt lc) N (0,rc x,rp x,(x:Int),rc,rp,qn - 1,(poT qn qc qp qx).1,(poT qn qc qp qx).2.1,(poT qn qc qp qx).2.2)=some (0,j,c,p,y,s)) :
  dcst N np ln lt lc a B (rc,rp,qn,qc,qp,qx)=.inl s:=by
 have e:(!((decide ((qc 0)=(rc (qx 0).toNat))) && ((decide ((qp 0)=(rp (qx 0).toNat))) && true)))=false:=by
  rw [ex,toN,vYJ e1,vYJ e2]; rfl
 have ho:qQG N np ln lt lc (0,(qc 0),(qp 0),(qx 0),(fun v=>(rc v)),(fun v=>(rp v)),(qn - 1),(fun v=>((poT qn qc qp qx).1 v)),(fun v=>((poT qn qc qp qx).2.1 v)),(fun v=>((poT qn qc qp qx).2.2 v)))=(0,j,c,p,y,s):=by
  unfold qQG; rw [e1,e2,ex];show (qU (dcsi np ln lt lc) N (0,rc x,rp x,(x:Int),rc,rp,qn - 1,(poT qn qc qp qx).1,(poT qn qc qp qx).2.1,(poT qn qc qp qx).2.2)).getD _=_;rw [hi]; rfl
 have hk:qJI N np ln lt lc (0,(qc 0),(qp 0),(qx 0),(fun v=>(rc v)),(fun v=>(rp v)),(qn - 1),(fun v=>((poT qn qc qp qx).1 v)),(fun v=>((poT qn qc qp qx).2.1 v)),(fun v=>((poT qn qc qp qx).2.2 v)))=true:=by
  unfold qJI; rw [e1,e2,ex];show (qU (dcsi np ln lt lc) N (0,rc x,rp x,(x:Int),rc,rp,qn - 1,(poT qn qc qp qx).1,(poT qn qc qp qx).2.1,(poT qn qc qp qx).2.2)).isSome=_;rw [hi]; rfl
 dsimp only [dcst];rw [vYJ (show (0:Int) < (qn:Int) by omega),qGL (C:=cpo) (t:=(qn,qc,qp,qx)) ⟨hq,h1⟩,vYY ha,e,toN,qZG ex hx,yQ,ho,hk]; rfl
theorem jGV {z q q' l m:Nat} (_:z + 1001 + q=m) (_:q'≤q - 1 + l) (_:l≤1000) (_:¬ q=0):z + q' < m:=by omega
theorem jWF (hl:LOk np ln lt lc) {N:Nat} (hN:1001≤N) (a B:Int):∀ (m M:Nat) (S:Nat→Bool) (rc rp:Nat→Int) (qn:Nat) (qc qp qx:Nat→Int),(np - cntS S np) * 1001 + qn=m→m < M→DI np ln lt lc b S rc rp qn qc qp qx →
  ∃ S' rc' rp' qn' qc' qp' qx',qU (dcst N np ln lt lc a B) M (rc,rp,qn,qc,qp,qx)=some (0,rc',rp',qn',qc',qp',qx')∧DI np ln lt lc b S' rc' rp' qn' qc' qp' qx'∧(qn'=0 ∨ (1≤qn'∧qx' 0=a)):=fun m=>by
 induction m using Nat.strongRecOn with
 | ind m ih =>
  intro M S rc rp qn qc qp qx hm hM h;obtain ⟨M,rfl⟩:∃ K,M=K + 1:=⟨M - 1,by omega⟩
  by_cases h0:qn=0
  ·subst h0;exact ⟨S,rc,rp,0,qc,qp,qx,by rw [qU,yGU],h,.inl rfl⟩
  by_cases ha:qx 0=a
  ·exact ⟨S,rc,rp,qn,qc,qp,qx,by rw [qU,yGX h.q (by omega) ha],h,.inr ⟨by omega,ha⟩⟩
  obtain ⟨x,hx,ex,_⟩:=h.ent 0 (by omega);by_cases hs:qc 0=rc x∧qp 0=rp x
  ·have hst:=h.start (by omega) hx ex hs.1 hs.2;have hcn:=zQE S np;have hnp:=hl.hnp;have hqb:=h.qb;have hlx:=hl.hln x hx;obtain ⟨rc',rp',qn',qc',qp',qx',g1,g2⟩:=jJD hl hx (by omega) (ln x) 0 N rc rp _ _ _ _ (by omega) (by omega) (by omega) hst;have hd:=II.done hl hx g2 (by omega);have hq2:=g2.qb;have hcs:=zQE (setS S x) np;have hlt:(np - cntS (setS S x) np) * 1001 + qn' < m:=by
    cases hsx:S x with
    | true=>rw [hsx] at hq2; rw [zGF hsx]; simp at hq2; omega
    | false =>
     rw [hsx] at hq2; simp at hq2;have hc:=zYF hsx np hx;rw [hc] at hcs ⊢;have e1:np - cntS S np=(np - (cntS S np + 1)) + 1:=by omega
     rw [e1,Nat.add_mul] at hm;rw [Nat.one_mul] at hm;exact jGV hm hq2 hlx h0
   obtain ⟨S',r1,r2,r3,r4,r5,r6,w1,w2,w3⟩:=ih _ hlt M _ _ _ _ _ _ _ rfl (by omega) hd;exact ⟨S',r1,r2,r3,r4,r5,r6,by rw [qU,yKA h.q (by omega) ha ex hx hs.1 hs.2 g1]; exact w1,w2,w3⟩
  ·obtain ⟨S',r1,r2,r3,r4,r5,r6,w1,w2,w3⟩:=ih _ (show (np - cntS S np) * 1001 + (qn - 1) < m by omega) M _ _ _ _ _ _ _ rfl (by omega) (h.stale (by omega) ex hs);exact ⟨S',r1,r2,r3,r4,r5,r6,by rw [qU,yZW h.q (by omega) ha ex hx hs]; exact w1,w2,w3⟩
theorem DI.init (hb:b < np):DI np ln lt lc b (fun _=>false) (iz b) (io b) 1 (jz b) (jo b) (jb b):=by
 have z:∀ v,iz b v=0:=fun v=>by unfold iz; cases Nat.beq v (b:Int).toNat <;> rfl
 have o:∀ v,io b v=if v=b then 1 else 0:=fun v=>by
  unfold io; rw [toN,uH];by_cases e:v=b
  ·rw [vYJ e,if_pos e]; rfl
  ·rw [vYY e,if_neg e]; rfl
 have j0:∀ v,jz b v=0:=fun v=>by unfold jz; cases Nat.beq (b:Int).toNat (b:Int).toNat <;> rfl
 have j1:∀ v,jo b v=1:=fun v=>by unfold jo; rw [Nat.beq_refl]; rfl
 refine ⟨⟨by omega,fun k k0 kn=>by omega,fun k _=>by rw [j1]; omega⟩,by omega,fun k hk=>⟨b,hb,rfl,?_,?_,?_,?_⟩,fun v hv => ?_,fun v hv hr _ => ?_,fun u w y hu hs=>(by cases hs),fun u k hu hs=>(by cases hs),⟨z b,by rw [o,if_pos rfl]⟩,fun v _=>by rw [o]; split <;> omega⟩
 ·rw [j0,j1]; exact .nil
 ·rw [j1]; omega
 ·rw [o,if_pos rfl]; omega
 ·rw [z,o,if_pos rfl,j0,j1]; exact leR.refl _ _
 ·by_cases e:v=b
  ·subst e; rw [z,o,if_pos rfl]; exact .inr ⟨by omega,.nil⟩
  ·rw [o,if_neg e]; exact .inl ⟨rfl,rfl⟩
 ·rw [o] at hr;by_cases e:v=b
  ·subst e; exact ⟨0,by omega,by rw [j0,z],by rw [j1,o,if_pos rfl],rfl⟩
  ·rw [if_neg e] at hr; omega
theorem DI.best (hl:LOk np ln lt lc) (hb:b < np) {S:Nat→Bool} {rc rp:Nat→Int} {qn:Nat} {qc qp qx:Nat→Int} (h:DI np ln lt lc b S rc rp qn qc qp qx) {a:Nat} (ha:a < np) (hr:0 < rp a) (he:qn=0 ∨ (1≤qn∧qx 0=(a:Int))) :
  (∀ k,k < qn→leR (rc a) (rp a) (qc k) (qp k))∧∀ x c p,Wk np ln lt lc b x c p→leR (rc a) (rp a) c p ∨ (S x=true∧leR (rc x) (rp x) c p):=by
 have hq:∀ k,k < qn→leR (rc a) (rp a) (qc k) (qp k):=fun k hk=>by
  rcases he with rfl | ⟨h1,ea⟩
  ·omega
  ·cases hs:S a with
   | true=>exact h.mono a k ha hs hk
   | false =>
    have hmin:=zGU h.q.heap;obtain ⟨i,hi,g1,g2,g3⟩:=h.live a ha hr hs;obtain ⟨y,y1,y2,y3,y4,y5,y6⟩:=h.ent 0 (by omega);obtain rfl:y=a:=by omega
    exact y6.trans (hmin k hk)
 refine ⟨hq,fun x c p hw => ?_⟩;have step:∀ v c p,v < np→0 < rp v→leR (rc v) (rp v) c p→leR (rc a) (rp a) c p ∨ (S v=true∧leR (rc v) (rp v) c p):=fun v c p hv h0 hle=>by
  cases hs:S v with
  | true=>exact .inr ⟨rfl,hle⟩
  | false =>
   obtain ⟨k,hk,g1,g2,_⟩:=h.live v hv h0 hs
   have:=hq k hk
   rw [g1,g2] at this;exact .inl (this.trans hle)
 induction hw with
 | nil=>exact step b 0 1 hb (by rw [h.src.2]; omega) (by rw [h.src.1,h.src.2]; exact leR.refl _ _)
 | cons hw hx hwl hy ih =>
  have hc:=hl.hco _ _ hx hwl;have ht:=hl.hto _ _ hx hwl;rcases ih with ih | ⟨hs,ih⟩
  ·exact .inl (ih.trans (leR.up hc.1))
  ·obtain ⟨g1,g2⟩:=h.cl _ _ _ hx hs hwl hy;exact step _ _ _ (by omega) g1 (g2.trans (leR.add ih))
theorem DI.none (_:LOk np ln lt lc) {S:Nat→Bool} {rc rp:Nat→Int} {qn:Nat} {qc qp qx:Nat→Int} (h:DI np ln lt lc b S rc rp qn qc qp qx) {a:Nat} (_:a < np) (_:rp a=0) (he:qn=0 ∨ (1≤qn∧qx 0=(a:Int))):∀ c p,¬ Wk np ln lt lc b a c p:=by
 rcases he with rfl | ⟨h1,ea⟩
 ·have key:∀ x c p,Wk np ln lt lc b x c p→0 < rp x:=fun x c p hw=>by
   induction hw with
   | nil=>rw [h.src.2]; omega
   | @cons x y w c p hw hx hwl hy ih =>
    have hs:S x=true:=by
     cases hs:S x with
     | true=>rfl
     | false =>
      obtain ⟨k,hk,_⟩:=h.live _ hx ih hs;omega
    exact (h.cl _ _ _ hx hs hwl hy).1
  intro c p hw
  have:=key a c p hw
  omega
 ·obtain ⟨y,y1,y2,y3,y4,y5,y6⟩:=h.ent 0 (by omega);obtain rfl:y=a:=by omega
  omega
end
end Go.Proofs.Ytglkkhpdbfacfaa.Bk
namespace Go.Proofs.Ytglkkhpdbfacfaa.Bl
open Go.Rx Rt Go.Sx Go.RowKit Ba Bb Bc Bd Be Bf Bh Bg Bi Bj Bk
theorem qHZ {good:Nat→Bool}:∀ n p,allN good n p=false→p≤Rx.firstK good n p∧Rx.firstK good n p < p + n∧good (Rx.firstK good n p)=false
 | 0,p,h=>by cases h
 | n + 1,p,h=>by
  simp only [allN] at h;unfold Rx.firstK;cases hg:good p with
  | false=>simp only [vYZ]; exact ⟨Nat.le_refl _,by omega,hg⟩
  | true =>
   rw [hg,vZW] at h;obtain ⟨h1,h2,h3⟩:=qHZ n (p + 1) h;simp only [vYQ];exact ⟨by omega,by omega,h3⟩
section
variable {np:Nat} {ln:Nat→Nat} {lt lc:Nat→Nat→Int} {b:Nat}
def LSym (np:Nat) (ln:Nat→Nat) (lt lc:Nat→Nat→Int):Prop:=∀ u w y,u < np→w < ln u→lt u w=((y:Nat):Int)→∃ w',w' < ln y∧lt y w'=(u:Int)∧lc y w'=lc u w
structure OnR (np:Nat) (ln:Nat→Nat) (lt lc:Nat→Nat→Int) (b:Nat) (rc rp:Nat→Int) (a v:Nat):Prop where
 ltn:v < np
 wk:Wk np ln lt lc b v (rc v) (rp v)
 opt:∀ c p,Wk np ln lt lc b v c p→leR (rc v) (rp v) c p
 le:leR (rc v) (rp v) (rc a) (rp a)
theorem leR.sub {a b c d k:Int} (_:leR (a + k) (b + 1) (c + k) (d + 1)):leR a b c d:=by unfold leR at *; omega
theorem OnR.ex (hl:LOk np ln lt lc) (hs:LSym np ln lt lc) {rc rp:Nat→Int} {a v:Nat} {S:Nat→Bool} (hbest:∀ x c p,Wk np ln lt lc b x c p→leR (rc a) (rp a) c p ∨ (S x=true∧leR (rc x) (rp x) c p)) (hrk:∀ v,v < np→(rp v=0∧S v=false) ∨ (0 < rp v∧Wk np ln lt lc b v (rc v) (rp v)))
  (h:OnR np ln lt lc b rc rp a v) (hv:v ≠ b):∃ w x,w < ln v∧lt v w=((x:Nat):Int)∧rp x=rp v - 1∧rc x + lc v w=rc v:=by
 have hw:=h.wk;generalize hc:rc v=cv at hw;generalize hp:rp v=pv at hw;cases hw with
 | nil=>exact absurd rfl hv
 | @cons x y w c p hw hx hwl hy =>
  have hco:=hl.hco x w hx hwl;obtain ⟨w',g1,g2,g3⟩:=hs x w v hx hwl hy;have hle:leR (rc x) (rp x) c p∧S x=true:=by
   rcases hbest x c p hw with h1 | ⟨h1,h2⟩
   ·exfalso
    have:=h.le.trans h1
    rw [hc,hp] at this;exact leR.not_up this (leR.refl _ _) hco.1
   ·exact ⟨h2,h1⟩
  have hwx:Wk np ln lt lc b x (rc x) (rp x):=by
   rcases hrk x hx with ⟨_,h2⟩ | h2
   ·rw [hle.2] at h2; cases h2
   ·exact h2.2
  have:=h.opt _ _ (.cons hwx hx hwl hy)
  rw [hc,hp] at this;have e:=leR.anti hle.1 (leR.sub this);exact ⟨w',x,g1,g2,by omega,by rw [g3]; omega⟩
theorem OnR.next (hl:LOk np ln lt lc) (hs:LSym np ln lt lc) {rc rp:Nat→Int} {a v x w:Nat} {S:Nat→Bool} (hrk:∀ v,v < np→(rp v=0∧S v=false) ∨ (0 < rp v∧Wk np ln lt lc b v (rc v) (rp v)))
  (h:OnR np ln lt lc b rc rp a v) (hv:v ≠ b) (hw:w < ln v) (hx:lt v w=(x:Int)) (e1:rp x=rp v - 1) (e2:rc x + lc v w=rc v):OnR np ln lt lc b rc rp a x:=by
 have ht:=hl.hto v w h.ltn hw;have hco:=hl.hco v w h.ltn hw;have hbd:=h.wk.bd hl;have hp:rp v ≠ 1:=fun e=>hv (h.wk.one hl e).1
 obtain ⟨w',g1,g2,g3⟩:=hs v w x h.ltn hw hx;refine ⟨by omega,?_,fun c p hc => ?_,?_⟩
 ·rcases hrk x (by omega) with ⟨h1,_⟩ | h1
  ·omega
  ·exact h1.2
 ·have:=h.opt _ _ (.cons hc (by omega) g1 g2)
  rw [g3] at this;unfold leR at *; omega
 ·have:=h.le
  unfold leR at *; omega
theorem yKI {v w x:Nat} {bb co:Int} {rc rp:Nat→Int} {vn:Nat} {vf:Nat→Int} (hl:LOk np ln lt lc) (hv:v < np) (hb:(v:Int) ≠ bb) (hi:ixI (ln v) (lt v) (lc v) rc rp (v:Int)=(w:Int)) (hw:w < ln v) (hx:lt v w=(x:Int)) (hn:vn + 1≤1000000) :
  dcpa np ln lt lc bb ((v:Int),co,rc,rp,vn,vf)=.inl ((x:Int),co,rc,rp,vn + 1,fun k=>bif Nat.beq k vn then (x:Int) else vf k):=by
 have hlx:=hl.hln v hv;have hg:cix (ln v,lt v,lc v,np,rc,rp,(v:Int)):=⟨by omega,fun i hi=>by
  have:=hl.hto v i hv hi
  exact qZG (y:=(lt v i).toNat) (by omega) (by omega),zU hv⟩
 dsimp only [dcpa];rw [vYY hb];simp only [toN,zU hv,kW (C:=cix) (t:=(ln v,lt v,lc v,np,rc,rp,(v:Int))) hg,hi,zU hw,vYJ hn,hx,Bool.not_false,vYQ]
theorem yGG {co:Int} {rc rp:Nat→Int} {vn:Nat} {vf:Nat→Int}:dcpa np ln lt lc (b:Int) ((b:Int),co,rc,rp,vn,vf)=.inr (0,(b:Int),co,rc,rp,vn,vf):=by
 dsimp only [dcpa];rw [vYJ rfl]; rfl
theorem jVQ (hl:LOk np ln lt lc) (hs:LSym np ln lt lc) {rc rp:Nat→Int} {a:Nat} {S:Nat→Bool} (hbest:∀ x c p,Wk np ln lt lc b x c p→leR (rc a) (rp a) c p ∨ (S x=true∧leR (rc x) (rp x) c p)) (hrk:∀ v,v < np→(rp v=0∧S v=false) ∨ (0 < rp v∧Wk np ln lt lc b v (rc v) (rp v)))
  (hrb:∀ v,v < np→rp v≤1000) (co:Int):∀ (m M:Nat) (v:Nat) (vn:Nat) (vf:Nat→Int),rp v=(m:Int)→m < M→vn + m≤2000→OnR np ln lt lc b rc rp a v →
  ∃ vn' vf',qU (dcpa np ln lt lc (b:Int)) M ((v:Int),co,rc,rp,vn,vf)=some (0,(b:Int),co,rc,rp,vn',vf')
 | m,0,v,vn,vf,hm,hM,hn,h=>by omega
 | m,M + 1,v,vn,vf,hm,hM,hn,h=>by
  by_cases hv:v=b
  ·subst hv;exact ⟨vn,vf,by rw [qU,yGG]⟩
  ·have hbd:=h.wk.bd hl;have hrv:=hrb v h.ltn;have hp:rp v ≠ 1:=fun e=>hv (h.wk.one hl e).1
   have hlx:=hl.hln v h.ltn;obtain ⟨w0,x0,q1,q2,q3,q4⟩:=h.ex hl hs hbest hrk hv;have hw1:vYX .i64 (rp v - 1)=rp v - 1:=yH (by omega);have hall:allN (fun i:Nat=>ixB (lt v) (lc v) rc rp (v:Int) i) (ln v) 0=false:=by
    cases ha:allN (fun i:Nat=>ixB (lt v) (lc v) rc rp (v:Int) i) (ln v) 0 with
    | false=>rfl
    | true =>
     exfalso
     have:=allN_iff.1 ha w0 (by omega) (by omega)
     unfold ixB at this;rw [toN,q2,toN,hw1,vYJ q3,q4,yH (by omega),vYJ rfl] at this;cases this
   obtain ⟨f1,f2,f3⟩:=qHZ _ _ hall;have hi:ixI (ln v) (lt v) (lc v) rc rp (v:Int)=((Rx.firstK (fun i:Nat=>ixB (lt v) (lc v) rc rp (v:Int) i) (ln v) 0:Nat):Int):=by
    unfold ixI; rw [hall]; rfl
   generalize Rx.firstK (fun i:Nat=>ixB (lt v) (lc v) rc rp (v:Int) i) (ln v) 0=w at *;have ht:=hl.hto v w h.ltn (by omega);have hco:=hl.hco v w h.ltn (by omega);obtain ⟨x,hx⟩:∃ x:Nat,lt v w=(x:Int):=⟨(lt v w).toNat,by omega⟩
   have hxn:x < np:=by omega
   unfold ixB at f3;simp only [Bool.not_eq_false',vQJ,decide_eq_true_eq,toN,hx,hw1] at f3;obtain ⟨f3,f4⟩:=f3;have hxw:Wk np ln lt lc b x (rc x) (rp x):=by
    rcases hrk x hxn with ⟨h1,_⟩ | h1
    ·omega
    ·exact h1.2
   have hxb:=hxw.bd hl;rw [yH (by omega)] at f4;rw [qU,yKI hl h.ltn (by omega) hi (by omega) hx (by omega)];exact jVQ hl hs hbest hrk hrb co (m - 1) M x (vn + 1) _ (by omega) (by omega) (by omega) (h.next hl hs hrk hv (by omega) hx f3 f4)
end
end Go.Proofs.Ytglkkhpdbfacfaa.Bl

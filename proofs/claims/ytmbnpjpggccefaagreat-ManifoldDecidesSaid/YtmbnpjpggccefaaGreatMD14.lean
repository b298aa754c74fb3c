/- Part 14 of the texts behind the last one: rules and contracts. No condition. -/
import Derived.Test.YtmbnpjpggccefaaGreatMD13
namespace Go.Proofs.YtmbnpjpggccefaaGreat.Nd
open Go.Rx Rt Go.Sx Go.RowKit
open Ov Pc Na Nb Nc
theorem bcs {α : Type} {c : Bool} {x y z : α} (h1 : c = true → x = z) (h2 : c = false → y = z) : (bif c then x else y) = z := by
 cases c
 ·exact h2 rfl
 ·exact h1 rfl
def fC (cs : Nat → Cn) : Nat → List PV := fun v => cp (cs v)
def COK (n : Nat) (q : Cn) : Prop := (q.kind = 0 ∨ q.kind = 1) ∧ (0 ≤ q.link ∧ q.link < n) ∧ (-4194304 ≤ q.p.x ∧ q.p.x ≤ 4194304) ∧ (-4194304 ≤ q.p.y ∧ q.p.y ≤ 4194304) ∧ (-4194304 ≤ q.p.z ∧ q.p.z ≤ 4194304) ∧
 (-16384 ≤ q.n.x ∧ q.n.x ≤ 16384) ∧ (-16384 ≤ q.n.y ∧ q.n.y ≤ 16384) ∧ (-16384 ≤ q.n.z ∧ q.n.z ≤ 16384) ∧ ¬ (q.n.x = 0 ∧ q.n.y = 0 ∧ q.n.z = 0) ∧ q.lo ≤ q.hi ∧ -70368744177664 ≤ q.lo ∧ q.hi ≤ 70368744177664
instance (n : Nat) (q : Cn) : Decidable (COK n q) := by unfold COK; exact inferInstance
def conB (n : Nat) (q : Cn) : Bool := decide (COK n q)
def cAll (cs : Nat → Cn) (n : Nat) : Nat → Nat → Bool
 | 0, _ => true
 | k + 1, p => conB n (cs p) && cAll cs n k (p + 1)
def cErr (js : Nat → J) (ms : Nat → Ms) (n m : Nat) (cs : Nat → Cn) (c : Nat) : Bool := decide (rErr js ms n m = 0) && (!decide (8 < (c : Int)) && cAll cs n c 0)
noncomputable def qGY (js : Nat → J) (ms : Nat → Ms) (n m : Nat) : List PV → Option (Bool × Ret) := fun ps => match ps with
 | [r] => some (gEq r (.a [.lf n (fJ js), .lf m (fM ms)]), .v (.n .i64 (rErr js ms n m)))
 | _ => none
theorem ok_kMc (js : Nat → J) (ms : Nat → Ms) (n m : Nat) : OneOk Tryz.prog 43 (qGY js ms n m) := by
 intro ps r hh
 unfold qGY at hh
 split at hh
 ·simp only [Option.some.injEq, Prod.mk.injEq] at hh
  obtain ⟨hg, rfl⟩ := hh
  obtain rfl := zQZ hg
  exact snd_chk js ms n m
 ·cases hh
def hMc (js : Nat → J) (ms : Nat → Ms) (n m : Nat) (cs : Nat → Cn) (c : Nat) (i : Int) : St := ⟨[(2, .p 2 0), (17, .v (.lf c (fC cs))), (18, .v (.n .i64 (c : Int))), (19, .v (.n .i64 i))], [(2, .blk [.v (.lf n (fJ js)), .v (.lf m (fM ms))])]⟩
def cTMc {α : Type} (n : Nat) (q : Cn) (a b : α) : α := (bif (!decide (q.kind = 0)) then (bif (!decide (q.kind = 1)) then b else (bif (decide (q.link < 0)) then b else (bif (decide ((n : Int) ≤ q.link)) then b else (bif (decide (q.p.x < (-4194304))) then b else (bif (decide (4194304 < q.p.x)) then b else (bif (decide (q.p.y < (-4194304))) then b else (bif (decide (4194304 < q.p.y)) then b else (bif (decide (q.p.z < (-4194304))) then b else (bif (decide (4194304 < q.p.z)) then b else (bif (decide (q.n.x < (-16384))) then b else (bif (decide (16384 < q.n.x)) then b else (bif (decide (q.n.y < (-16384))) then b else (bif (decide (16384 < q.n.y)) then b else (bif (decide (q.n.z < (-16384))) then b else (bif (decide (16384 < q.n.z)) then b else (bif (!((decide (q.n.x = 0)) && ((decide (q.n.y = 0)) && ((decide (q.n.z = 0)) && true)))) then (bif (decide (q.hi < q.lo)) then b else (bif (decide (q.lo < (-70368744177664))) then b else (bif (decide (70368744177664 < q.hi)) then b else a))) else b)))))))))))))))) else (bif (decide (q.link < 0)) then b else (bif (decide ((n : Int) ≤ q.link)) then b else (bif (decide (q.p.x < (-4194304))) then b else (bif (decide (4194304 < q.p.x)) then b else (bif (decide (q.p.y < (-4194304))) then b else (bif (decide (4194304 < q.p.y)) then b else (bif (decide (q.p.z < (-4194304))) then b else (bif (decide (4194304 < q.p.z)) then b else (bif (decide (q.n.x < (-16384))) then b else (bif (decide (16384 < q.n.x)) then b else (bif (decide (q.n.y < (-16384))) then b else (bif (decide (16384 < q.n.y)) then b else (bif (decide (q.n.z < (-16384))) then b else (bif (decide (16384 < q.n.z)) then b else (bif (!((decide (q.n.x = 0)) && ((decide (q.n.y = 0)) && ((decide (q.n.z = 0)) && true)))) then (bif (decide (q.hi < q.lo)) then b else (bif (decide (q.lo < (-70368744177664))) then b else (bif (decide (70368744177664 < q.hi)) then b else a))) else b))))))))))))))))
theorem cTMc_z {α : Type} (n : Nat) (q : Cn) (a b : α) : cTMc n q a b = (bif (decide (¬ q.kind = 0)) then (bif (decide (¬ q.kind = 1)) then b else (bif (decide (q.link < 0)) then b else (bif (decide ((n : Int) ≤ q.link)) then b else (bif (decide (q.p.x < (-4194304))) then b else (bif (decide (4194304 < q.p.x)) then b else (bif (decide (q.p.y < (-4194304))) then b else (bif (decide (4194304 < q.p.y)) then b else (bif (decide (q.p.z < (-4194304))) then b else (bif (decide (4194304 < q.p.z)) then b else (bif (decide (q.n.x < (-16384))) then b else (bif (decide (16384 < q.n.x)) then b else (bif (decide (q.n.y < (-16384))) then b else (bif (decide (16384 < q.n.y)) then b else (bif (decide (q.n.z < (-16384))) then b else (bif (decide (16384 < q.n.z)) then b else (bif (decide (¬ (q.n.x = 0 ∧ q.n.y = 0 ∧ q.n.z = 0))) then (bif (decide (q.hi < q.lo)) then b else (bif (decide (q.lo < (-70368744177664))) then b else (bif (decide (70368744177664 < q.hi)) then b else a))) else b)))))))))))))))) else (bif (decide (q.link < 0)) then b else (bif (decide ((n : Int) ≤ q.link)) then b else (bif (decide (q.p.x < (-4194304))) then b else (bif (decide (4194304 < q.p.x)) then b else (bif (decide (q.p.y < (-4194304))) then b else (bif (decide (4194304 < q.p.y)) then b else (bif (decide (q.p.z < (-4194304))) then b else (bif (decide (4194304 < q.p.z)) then b else (bif (decide (q.n.x < (-16384))) then b else (bif (decide (16384 < q.n.x)) then b else (bif (decide (q.n.y < (-16384))) then b else (bif (decide (16384 < q.n.y)) then b else (bif (decide (q.n.z < (-16384))) then b else (bif (decide (16384 < q.n.z)) then b else (bif (decide (¬ (q.n.x = 0 ∧ q.n.y = 0 ∧ q.n.z = 0))) then (bif (decide (q.hi < q.lo)) then b else (bif (decide (q.lo < (-70368744177664))) then b else (bif (decide (70368744177664 < q.hi)) then b else a))) else b)))))))))))))))) := by
 have hz : (!((decide (q.n.x = 0)) && ((decide (q.n.y = 0)) && ((decide (q.n.z = 0)) && true)))) = decide (¬ (q.n.x = 0 ∧ q.n.y = 0 ∧ q.n.z = 0)) := by
  by_cases hx : q.n.x = 0 <;> by_cases hy : q.n.y = 0 <;> by_cases hw : q.n.z = 0 <;> simp [hx, hy, hw]
 have hk0 : (!decide (q.kind = 0)) = decide (¬ q.kind = 0) := by simp
 have hk1 : (!decide (q.kind = 1)) = decide (¬ q.kind = 1) := by simp
 unfold cTMc
 rw [hz, hk0, hk1]
theorem cTMc_eq {α : Type} (n : Nat) (q : Cn) (a b : α) : cTMc n q a b = bif conB n q then a else b := by
 rw [cTMc_z]
 unfold conB
 by_cases h : COK n q
 ·rw [decide_eq_true h, cond_true]
  obtain ⟨h0, ⟨h1, h2⟩, ⟨h3, h4⟩, ⟨h5, h6⟩, ⟨h7, h8⟩, ⟨h9, h10⟩, ⟨h11, h12⟩, ⟨h13, h14⟩, h15, h16, h17, h18⟩ := h
  rcases h0 with h0 | h0
  ·simp only [decide_eq_false (show ¬ ¬ q.kind = 0 by omega), decide_eq_true h15, decide_eq_false (show ¬ q.link < 0 by omega), decide_eq_false (show ¬ (n : Int) ≤ q.link by omega), decide_eq_false (show ¬ q.p.x < (-4194304) by omega), decide_eq_false (show ¬ 4194304 < q.p.x by omega), decide_eq_false (show ¬ q.p.y < (-4194304) by omega), decide_eq_false (show ¬ 4194304 < q.p.y by omega), decide_eq_false (show ¬ q.p.z < (-4194304) by omega), decide_eq_false (show ¬ 4194304 < q.p.z by omega), decide_eq_false (show ¬ q.n.x < (-16384) by omega), decide_eq_false (show ¬ 16384 < q.n.x by omega), decide_eq_false (show ¬ q.n.y < (-16384) by omega), decide_eq_false (show ¬ 16384 < q.n.y by omega), decide_eq_false (show ¬ q.n.z < (-16384) by omega), decide_eq_false (show ¬ 16384 < q.n.z by omega), decide_eq_false (show ¬ q.hi < q.lo by omega), decide_eq_false (show ¬ q.lo < (-70368744177664) by omega), decide_eq_false (show ¬ 70368744177664 < q.hi by omega), cond_true, cond_false]
  ·simp only [decide_eq_true (show ¬ q.kind = 0 by omega), decide_eq_false (show ¬ ¬ q.kind = 1 by omega), decide_eq_true h15, decide_eq_false (show ¬ q.link < 0 by omega), decide_eq_false (show ¬ (n : Int) ≤ q.link by omega), decide_eq_false (show ¬ q.p.x < (-4194304) by omega), decide_eq_false (show ¬ 4194304 < q.p.x by omega), decide_eq_false (show ¬ q.p.y < (-4194304) by omega), decide_eq_false (show ¬ 4194304 < q.p.y by omega), decide_eq_false (show ¬ q.p.z < (-4194304) by omega), decide_eq_false (show ¬ 4194304 < q.p.z by omega), decide_eq_false (show ¬ q.n.x < (-16384) by omega), decide_eq_false (show ¬ 16384 < q.n.x by omega), decide_eq_false (show ¬ q.n.y < (-16384) by omega), decide_eq_false (show ¬ 16384 < q.n.y by omega), decide_eq_false (show ¬ q.n.z < (-16384) by omega), decide_eq_false (show ¬ 16384 < q.n.z by omega), decide_eq_false (show ¬ q.hi < q.lo by omega), decide_eq_false (show ¬ q.lo < (-70368744177664) by omega), decide_eq_false (show ¬ 70368744177664 < q.hi by omega), cond_true, cond_false]
 ·rw [decide_eq_false h, cond_false]
  exact bcs (fun h1 => bcs (fun h2 => rfl) (fun h2 => bcs (fun h3 => rfl) (fun h3 => bcs (fun h4 => rfl) (fun h4 => bcs (fun h5 => rfl) (fun h5 => bcs (fun h6 => rfl) (fun h6 => bcs (fun h7 => rfl) (fun h7 => bcs (fun h8 => rfl) (fun h8 => bcs (fun h9 => rfl) (fun h9 => bcs (fun h10 => rfl) (fun h10 => bcs (fun h11 => rfl) (fun h11 => bcs (fun h12 => rfl) (fun h12 => bcs (fun h13 => rfl) (fun h13 => bcs (fun h14 => rfl) (fun h14 => bcs (fun h15 => rfl) (fun h15 => bcs (fun h16 => rfl) (fun h16 => bcs (fun h17 => bcs (fun h18 => rfl) (fun h18 => bcs (fun h19 => rfl) (fun h19 => bcs (fun h20 => rfl) (fun h20 => (by simp only [decide_eq_true_eq, decide_eq_false_iff_not] at *; exact absurd (by unfold COK; refine ⟨?_, ⟨?_, ?_⟩, ⟨?_, ?_⟩, ⟨?_, ?_⟩, ⟨?_, ?_⟩, ⟨?_, ?_⟩, ⟨?_, ?_⟩, ⟨?_, ?_⟩, ?_, ?_, ?_, ?_⟩ <;> omega) h))))) (fun h17 => rfl))))))))))))))))) (fun h1 => bcs (fun h21 => rfl) (fun h21 => bcs (fun h22 => rfl) (fun h22 => bcs (fun h23 => rfl) (fun h23 => bcs (fun h24 => rfl) (fun h24 => bcs (fun h25 => rfl) (fun h25 => bcs (fun h26 => rfl) (fun h26 => bcs (fun h27 => rfl) (fun h27 => bcs (fun h28 => rfl) (fun h28 => bcs (fun h29 => rfl) (fun h29 => bcs (fun h30 => rfl) (fun h30 => bcs (fun h31 => rfl) (fun h31 => bcs (fun h32 => rfl) (fun h32 => bcs (fun h33 => rfl) (fun h33 => bcs (fun h34 => rfl) (fun h34 => bcs (fun h35 => bcs (fun h36 => rfl) (fun h36 => bcs (fun h37 => rfl) (fun h37 => bcs (fun h38 => rfl) (fun h38 => (by simp only [decide_eq_true_eq, decide_eq_false_iff_not] at *; exact absurd (by unfold COK; refine ⟨?_, ⟨?_, ?_⟩, ⟨?_, ?_⟩, ⟨?_, ?_⟩, ⟨?_, ?_⟩, ⟨?_, ?_⟩, ⟨?_, ?_⟩, ⟨?_, ?_⟩, ?_, ?_, ?_, ?_⟩ <;> omega) h))))) (fun h35 => rfl))))))))))))))))
set_option maxRecDepth 100000 in
theorem rdMc (G : St → Option (Ret × Mem)) (K : Cont) (js : Nat → J) (ms : Nat → Ms) (n m : Nat) (cs : Nat → Cn) (c : Nat) (i : Int) : runCK 60 (cxF T (OrL.k [(43, qGY js ms n m)]) 60 16 (ntmF T 16)) (ckF T (OrL.k [(43, qGY js ms n m)]) 60) (yQ T 16 [0, 1, 0, 1, 1]) (fun e τ => match e with
 | .normal => G (prune ((cxF T (OrL.k [(43, qGY js ms n m)]) 60 16 (ntmF T 16)).T.hint (cxF T (OrL.k [(43, qGY js ms n m)]) 60 16 (ntmF T 16)).me (jY (yQ T 16 [0, 1, 0, 1, 1]))) τ)
 | e => K e (qXG ((cxF T (OrL.k [(43, qGY js ms n m)]) 60 16 (ntmF T 16)).T.hint (cxF T (OrL.k [(43, qGY js ms n m)]) 60 16 (ntmF T 16)).me (jY (yQ T 16 [0, 1, 0, 1, 1]))) τ)) (hMc js ms n m cs c i) =
 bif decide (i < (c : Int)) then (bif inB i c then cTMc n (cs i.toNat) (G (hMc js ms n m cs c (IntKind.i64.wrap (i + 1)))) (K .ret ⟨[(4, .v (.b false))], []⟩) else none) else (K (.exit 0) ⟨[], []⟩) := by kernel_rfl
theorem lpMc (K : Cont) (js : Nat → J) (ms : Nat → Ms) (n m : Nat) (cs : Nat → Cn) (c : Nat) (hc : c ≤ 1000) : ∀ (k p q : Nat), p + k = c → k < q → LF 60 (cxF T (OrL.k [(43, qGY js ms n m)]) 60 16 (ntmF T 16)) (ckF T (OrL.k [(43, qGY js ms n m)]) 60) (yQ T 16 [0, 1, 0, 1, 1]) ((cxF T (OrL.k [(43, qGY js ms n m)]) 60 16 (ntmF T 16)).T.hint (cxF T (OrL.k [(43, qGY js ms n m)]) 60 16 (ntmF T 16)).me (jY (yQ T 16 [0, 1, 0, 1, 1]))) K q (hMc js ms n m cs c p) = bif cAll cs n k p then (K (.exit 0) ⟨[], []⟩) else (K .ret ⟨[(4, .v (.b false))], []⟩)
 | 0, p, q + 1, hp, hq => by
  refine (rdMc (fun σ => LF 60 (cxF T (OrL.k [(43, qGY js ms n m)]) 60 16 (ntmF T 16)) (ckF T (OrL.k [(43, qGY js ms n m)]) 60) (yQ T 16 [0, 1, 0, 1, 1]) ((cxF T (OrL.k [(43, qGY js ms n m)]) 60 16 (ntmF T 16)).T.hint (cxF T (OrL.k [(43, qGY js ms n m)]) 60 16 (ntmF T 16)).me (jY (yQ T 16 [0, 1, 0, 1, 1]))) K q σ) K js ms n m cs c p).trans ?_
  rw [decide_eq_false (show ¬ (p : Int) < (c : Int) by omega)]
  rfl
 | k + 1, p, q + 1, hp, hq => by
  refine (rdMc (fun σ => LF 60 (cxF T (OrL.k [(43, qGY js ms n m)]) 60 16 (ntmF T 16)) (ckF T (OrL.k [(43, qGY js ms n m)]) 60) (yQ T 16 [0, 1, 0, 1, 1]) ((cxF T (OrL.k [(43, qGY js ms n m)]) 60 16 (ntmF T 16)).T.hint (cxF T (OrL.k [(43, qGY js ms n m)]) 60 16 (ntmF T 16)).me (jY (yQ T 16 [0, 1, 0, 1, 1]))) K q σ) K js ms n m cs c p).trans ?_
  rw [decide_eq_true (show (p : Int) < (c : Int) by omega), qYU (show p < c by omega), qWV (by omega), lpMc K js ms n m cs c hc k (p + 1) q (by omega) (by omega), toN, cTMc_eq]
  by_cases hq : conB n (cs p) = true
  ·simp only [cAll, hq, cond_true, Bool.true_and]
  ·rw [Bool.not_eq_true] at hq
   simp only [cAll, hq, cond_true, cond_false, Bool.false_and]
set_option maxRecDepth 100000 in
theorem pxMc (js : Nat → J) (ms : Nat → Ms) (n m : Nat) (cs : Nat → Cn) (c : Nat) : runKL T (OrL.k [(43, qGY js ms n m)]) (qQU [([0, 1, 0, 1, 1], sumAt (hMc js ms n m cs c 0) (fun K => bif decide (8 < (c : Int)) then none else (bif cAll cs n c 0 then (K (.exit 0) ⟨[], []⟩) else (K .ret ⟨[(4, .v (.b false))], []⟩))))]) 60 16 [(.a [.lf n (fJ js), .lf m (fM ms)]), .lf c (fC cs)] =
 (bif (gEq (.a [.lf n (fJ js), .lf m (fM ms)]) (.a [.lf n (fJ js), .lf m (fM ms)])) then (bif (!decide ((rErr js ms n m) = 0)) then some (.v (.b false), [])
 else (bif (decide (8 < (c : Int))) then some (.v (.b false), [])
 else (bif gSt (hMc js ms n m cs c 0) (hMc js ms n m cs c 0) then (bif decide (8 < (c : Int)) then none else (bif cAll cs n c 0 then some (.v (.b true), []) else some (.v (.b false), []))) else none)))
 else none) := by kernel_rfl
theorem snd_Mc (js : Nat → J) (ms : Nat → Ms) (n m : Nat) (cs : Nat → Cn) (c : Nat) : SndA1 Tryz.prog 16 [(.a [.lf n (fJ js), .lf m (fM ms)]), .lf c (fC cs)] (.v (.b (cErr js ms n m cs c))) := by
 refine uZ (N := 60) (LO := qQU [([0, 1, 0, 1, 1], sumAt (hMc js ms n m cs c 0) (fun K => bif decide (8 < (c : Int)) then none else (bif cAll cs n c 0 then (K (.exit 0) ⟨[], []⟩) else (K .ret ⟨[(4, .v (.b false))], []⟩))))]) tabOk mixed (OrL.ok (l := [(43, qGY js ms n m)]) ⟨ok_kMc js ms n m, trivial⟩) (fun p S hp => ?_) ?_
 ·refine qQK (L := yQ T 16) (l := [([0, 1, 0, 1, 1], sumAt (hMc js ms n m cs c 0) (fun K => bif decide (8 < (c : Int)) then none else (bif cAll cs n c 0 then (K (.exit 0) ⟨[], []⟩) else (K .ret ⟨[(4, .v (.b false))], []⟩))))]) (show AllP _ [([0, 1, 0, 1, 1], sumAt (hMc js ms n m cs c 0) (fun K => bif decide (8 < (c : Int)) then none else (bif cAll cs n c 0 then (K (.exit 0) ⟨[], []⟩) else (K .ret ⟨[(4, .v (.b false))], []⟩))))] from ⟨qZX fun K r hr => ?_, trivial⟩) p S hp
  cases hq : decide (8 < (c : Int)) with
  | true => rw [hq] at hr; cases hr
  | false =>
   rw [hq] at hr
   have h8 := of_decide_eq_false hq
   exact (lpMc K js ms n m cs c (by omega) c 0 60 (by omega) (by omega)).trans hr
 ·refine (pxMc js ms n m cs c).trans ?_
  unfold cErr
  rw [qZV, gEq_self]
  cases decide (rErr js ms n m = 0) <;> cases decide (8 < (c : Int)) <;> cases cAll cs n c 0 <;> rfl
noncomputable def qGZ (js : Nat → J) (ms : Nat → Ms) (n m : Nat) : List PV → Option (Bool × Ret) := fun ps => match ps with
 | [r] => some (gEq r (.a [.lf n (fJ js), .lf m (fM ms)]), .v (.n .i64 (rErr js ms n m)))
 | _ => none
theorem ok_kRc (js : Nat → J) (ms : Nat → Ms) (n m : Nat) : OneOk Tryz.prog 45 (qGZ js ms n m) := by
 intro ps r hh
 unfold qGZ at hh
 split at hh
 ·simp only [Option.some.injEq, Prod.mk.injEq] at hh
  obtain ⟨hg, rfl⟩ := hh
  obtain rfl := zQZ hg
  exact snd_crf js ms n m
 ·cases hh
def hRc (js : Nat → J) (ms : Nat → Ms) (n m : Nat) (cs : Nat → Cn) (c : Nat) (i : Int) : St := ⟨[(1, .v (.lf c (fC cs))), (2, .p 2 0), (5, .v (.n .i64 i))], [(2, .blk [.v (.lf n (fJ js)), .v (.lf m (fM ms))])]⟩
def cTRc {α : Type} (n : Nat) (q : Cn) (a b : α) : α := (bif (!decide (q.kind = 0)) then (bif (!decide (q.kind = 1)) then b else (bif (decide (q.link < 0)) then b else (bif (decide ((n : Int) ≤ q.link)) then b else (bif (decide (q.p.x < (-4194304))) then b else (bif (decide (4194304 < q.p.x)) then b else (bif (decide (q.p.y < (-4194304))) then b else (bif (decide (4194304 < q.p.y)) then b else (bif (decide (q.p.z < (-4194304))) then b else (bif (decide (4194304 < q.p.z)) then b else (bif (!((decide (q.n.x = 0)) && ((decide (q.n.y = 0)) && ((decide (q.n.z = 0)) && true)))) then (bif (decide (q.n.x < (-16384))) then b else (bif (decide (16384 < q.n.x)) then b else (bif (decide (q.n.y < (-16384))) then b else (bif (decide (16384 < q.n.y)) then b else (bif (decide (q.n.z < (-16384))) then b else (bif (decide (16384 < q.n.z)) then b else (bif (decide (q.hi < q.lo)) then b else (bif (decide (q.lo < (-70368744177664))) then b else (bif (decide (70368744177664 < q.hi)) then b else a))))))))) else b)))))))))) else (bif (decide (q.link < 0)) then b else (bif (decide ((n : Int) ≤ q.link)) then b else (bif (decide (q.p.x < (-4194304))) then b else (bif (decide (4194304 < q.p.x)) then b else (bif (decide (q.p.y < (-4194304))) then b else (bif (decide (4194304 < q.p.y)) then b else (bif (decide (q.p.z < (-4194304))) then b else (bif (decide (4194304 < q.p.z)) then b else (bif (!((decide (q.n.x = 0)) && ((decide (q.n.y = 0)) && ((decide (q.n.z = 0)) && true)))) then (bif (decide (q.n.x < (-16384))) then b else (bif (decide (16384 < q.n.x)) then b else (bif (decide (q.n.y < (-16384))) then b else (bif (decide (16384 < q.n.y)) then b else (bif (decide (q.n.z < (-16384))) then b else (bif (decide (16384 < q.n.z)) then b else (bif (decide (q.hi < q.lo)) then b else (bif (decide (q.lo < (-70368744177664))) then b else (bif (decide (70368744177664 < q.hi)) then b else a))))))))) else b))))))))))
theorem cTRc_z {α : Type} (n : Nat) (q : Cn) (a b : α) : cTRc n q a b = (bif (decide (¬ q.kind = 0)) then (bif (decide (¬ q.kind = 1)) then b else (bif (decide (q.link < 0)) then b else (bif (decide ((n : Int) ≤ q.link)) then b else (bif (decide (q.p.x < (-4194304))) then b else (bif (decide (4194304 < q.p.x)) then b else (bif (decide (q.p.y < (-4194304))) then b else (bif (decide (4194304 < q.p.y)) then b else (bif (decide (q.p.z < (-4194304))) then b else (bif (decide (4194304 < q.p.z)) then b else (bif (decide (¬ (q.n.x = 0 ∧ q.n.y = 0 ∧ q.n.z = 0))) then (bif (decide (q.n.x < (-16384))) then b else (bif (decide (16384 < q.n.x)) then b else (bif (decide (q.n.y < (-16384))) then b else (bif (decide (16384 < q.n.y)) then b else (bif (decide (q.n.z < (-16384))) then b else (bif (decide (16384 < q.n.z)) then b else (bif (decide (q.hi < q.lo)) then b else (bif (decide (q.lo < (-70368744177664))) then b else (bif (decide (70368744177664 < q.hi)) then b else a))))))))) else b)))))))))) else (bif (decide (q.link < 0)) then b else (bif (decide ((n : Int) ≤ q.link)) then b else (bif (decide (q.p.x < (-4194304))) then b else (bif (decide (4194304 < q.p.x)) then b else (bif (decide (q.p.y < (-4194304))) then b else (bif (decide (4194304 < q.p.y)) then b else (bif (decide (q.p.z < (-4194304))) then b else (bif (decide (4194304 < q.p.z)) then b else (bif (decide (¬ (q.n.x = 0 ∧ q.n.y = 0 ∧ q.n.z = 0))) then (bif (decide (q.n.x < (-16384))) then b else (bif (decide (16384 < q.n.x)) then b else (bif (decide (q.n.y < (-16384))) then b else (bif (decide (16384 < q.n.y)) then b else (bif (decide (q.n.z < (-16384))) then b else (bif (decide (16384 < q.n.z)) then b else (bif (decide (q.hi < q.lo)) then b else (bif (decide (q.lo < (-70368744177664))) then b else (bif (decide (70368744177664 < q.hi)) then b else a))))))))) else b)))))))))) := by
 have hz : (!((decide (q.n.x = 0)) && ((decide (q.n.y = 0)) && ((decide (q.n.z = 0)) && true)))) = decide (¬ (q.n.x = 0 ∧ q.n.y = 0 ∧ q.n.z = 0)) := by
  by_cases hx : q.n.x = 0 <;> by_cases hy : q.n.y = 0 <;> by_cases hw : q.n.z = 0 <;> simp [hx, hy, hw]
 have hk0 : (!decide (q.kind = 0)) = decide (¬ q.kind = 0) := by simp
 have hk1 : (!decide (q.kind = 1)) = decide (¬ q.kind = 1) := by simp
 unfold cTRc
 rw [hz, hk0, hk1]
theorem cTRc_eq {α : Type} (n : Nat) (q : Cn) (a b : α) : cTRc n q a b = bif conB n q then a else b := by
 rw [cTRc_z]
 unfold conB
 by_cases h : COK n q
 ·rw [decide_eq_true h, cond_true]
  obtain ⟨h0, ⟨h1, h2⟩, ⟨h3, h4⟩, ⟨h5, h6⟩, ⟨h7, h8⟩, ⟨h9, h10⟩, ⟨h11, h12⟩, ⟨h13, h14⟩, h15, h16, h17, h18⟩ := h
  rcases h0 with h0 | h0
  ·simp only [decide_eq_false (show ¬ ¬ q.kind = 0 by omega), decide_eq_true h15, decide_eq_false (show ¬ q.link < 0 by omega), decide_eq_false (show ¬ (n : Int) ≤ q.link by omega), decide_eq_false (show ¬ q.p.x < (-4194304) by omega), decide_eq_false (show ¬ 4194304 < q.p.x by omega), decide_eq_false (show ¬ q.p.y < (-4194304) by omega), decide_eq_false (show ¬ 4194304 < q.p.y by omega), decide_eq_false (show ¬ q.p.z < (-4194304) by omega), decide_eq_false (show ¬ 4194304 < q.p.z by omega), decide_eq_false (show ¬ q.n.x < (-16384) by omega), decide_eq_false (show ¬ 16384 < q.n.x by omega), decide_eq_false (show ¬ q.n.y < (-16384) by omega), decide_eq_false (show ¬ 16384 < q.n.y by omega), decide_eq_false (show ¬ q.n.z < (-16384) by omega), decide_eq_false (show ¬ 16384 < q.n.z by omega), decide_eq_false (show ¬ q.hi < q.lo by omega), decide_eq_false (show ¬ q.lo < (-70368744177664) by omega), decide_eq_false (show ¬ 70368744177664 < q.hi by omega), cond_true, cond_false]
  ·simp only [decide_eq_true (show ¬ q.kind = 0 by omega), decide_eq_false (show ¬ ¬ q.kind = 1 by omega), decide_eq_true h15, decide_eq_false (show ¬ q.link < 0 by omega), decide_eq_false (show ¬ (n : Int) ≤ q.link by omega), decide_eq_false (show ¬ q.p.x < (-4194304) by omega), decide_eq_false (show ¬ 4194304 < q.p.x by omega), decide_eq_false (show ¬ q.p.y < (-4194304) by omega), decide_eq_false (show ¬ 4194304 < q.p.y by omega), decide_eq_false (show ¬ q.p.z < (-4194304) by omega), decide_eq_false (show ¬ 4194304 < q.p.z by omega), decide_eq_false (show ¬ q.n.x < (-16384) by omega), decide_eq_false (show ¬ 16384 < q.n.x by omega), decide_eq_false (show ¬ q.n.y < (-16384) by omega), decide_eq_false (show ¬ 16384 < q.n.y by omega), decide_eq_false (show ¬ q.n.z < (-16384) by omega), decide_eq_false (show ¬ 16384 < q.n.z by omega), decide_eq_false (show ¬ q.hi < q.lo by omega), decide_eq_false (show ¬ q.lo < (-70368744177664) by omega), decide_eq_false (show ¬ 70368744177664 < q.hi by omega), cond_true, cond_false]
 ·rw [decide_eq_false h, cond_false]
  exact bcs (fun h1 => bcs (fun h2 => rfl) (fun h2 => bcs (fun h3 => rfl) (fun h3 => bcs (fun h4 => rfl) (fun h4 => bcs (fun h5 => rfl) (fun h5 => bcs (fun h6 => rfl) (fun h6 => bcs (fun h7 => rfl) (fun h7 => bcs (fun h8 => rfl) (fun h8 => bcs (fun h9 => rfl) (fun h9 => bcs (fun h10 => rfl) (fun h10 => bcs (fun h11 => bcs (fun h12 => rfl) (fun h12 => bcs (fun h13 => rfl) (fun h13 => bcs (fun h14 => rfl) (fun h14 => bcs (fun h15 => rfl) (fun h15 => bcs (fun h16 => rfl) (fun h16 => bcs (fun h17 => rfl) (fun h17 => bcs (fun h18 => rfl) (fun h18 => bcs (fun h19 => rfl) (fun h19 => bcs (fun h20 => rfl) (fun h20 => (by simp only [decide_eq_true_eq, decide_eq_false_iff_not] at *; exact absurd (by unfold COK; refine ⟨?_, ⟨?_, ?_⟩, ⟨?_, ?_⟩, ⟨?_, ?_⟩, ⟨?_, ?_⟩, ⟨?_, ?_⟩, ⟨?_, ?_⟩, ⟨?_, ?_⟩, ?_, ?_, ?_, ?_⟩ <;> omega) h))))))))))) (fun h11 => rfl))))))))))) (fun h1 => bcs (fun h21 => rfl) (fun h21 => bcs (fun h22 => rfl) (fun h22 => bcs (fun h23 => rfl) (fun h23 => bcs (fun h24 => rfl) (fun h24 => bcs (fun h25 => rfl) (fun h25 => bcs (fun h26 => rfl) (fun h26 => bcs (fun h27 => rfl) (fun h27 => bcs (fun h28 => rfl) (fun h28 => bcs (fun h29 => bcs (fun h30 => rfl) (fun h30 => bcs (fun h31 => rfl) (fun h31 => bcs (fun h32 => rfl) (fun h32 => bcs (fun h33 => rfl) (fun h33 => bcs (fun h34 => rfl) (fun h34 => bcs (fun h35 => rfl) (fun h35 => bcs (fun h36 => rfl) (fun h36 => bcs (fun h37 => rfl) (fun h37 => bcs (fun h38 => rfl) (fun h38 => (by simp only [decide_eq_true_eq, decide_eq_false_iff_not] at *; exact absurd (by unfold COK; refine ⟨?_, ⟨?_, ?_⟩, ⟨?_, ?_⟩, ⟨?_, ?_⟩, ⟨?_, ?_⟩, ⟨?_, ?_⟩, ⟨?_, ?_⟩, ⟨?_, ?_⟩, ?_, ?_, ?_, ?_⟩ <;> omega) h))))))))))) (fun h29 => rfl))))))))))
set_option maxRecDepth 100000 in
theorem rdRc (G : St → Option (Ret × Mem)) (K : Cont) (js : Nat → J) (ms : Nat → Ms) (n m : Nat) (cs : Nat → Cn) (c : Nat) (i : Int) : runCK 60 (cxF T (OrL.k [(45, qGZ js ms n m)]) 60 17 (ntmF T 17)) (ckF T (OrL.k [(45, qGZ js ms n m)]) 60) (yQ T 17 [0, 1, 0, 1, 1]) (fun e τ => match e with
 | .normal => G (prune ((cxF T (OrL.k [(45, qGZ js ms n m)]) 60 17 (ntmF T 17)).T.hint (cxF T (OrL.k [(45, qGZ js ms n m)]) 60 17 (ntmF T 17)).me (jY (yQ T 17 [0, 1, 0, 1, 1]))) τ)
 | e => K e (qXG ((cxF T (OrL.k [(45, qGZ js ms n m)]) 60 17 (ntmF T 17)).T.hint (cxF T (OrL.k [(45, qGZ js ms n m)]) 60 17 (ntmF T 17)).me (jY (yQ T 17 [0, 1, 0, 1, 1]))) τ)) (hRc js ms n m cs c i) =
 bif decide (i < (c : Int)) then (bif inB i c then cTRc n (cs i.toNat) (G (hRc js ms n m cs c (IntKind.i64.wrap (i + 1)))) (K .ret ⟨[(4, .v (.b false))], []⟩) else none) else (K (.exit 0) ⟨[], []⟩) := by kernel_rfl
theorem lpRc (K : Cont) (js : Nat → J) (ms : Nat → Ms) (n m : Nat) (cs : Nat → Cn) (c : Nat) (hc : c ≤ 1000) : ∀ (k p q : Nat), p + k = c → k < q → LF 60 (cxF T (OrL.k [(45, qGZ js ms n m)]) 60 17 (ntmF T 17)) (ckF T (OrL.k [(45, qGZ js ms n m)]) 60) (yQ T 17 [0, 1, 0, 1, 1]) ((cxF T (OrL.k [(45, qGZ js ms n m)]) 60 17 (ntmF T 17)).T.hint (cxF T (OrL.k [(45, qGZ js ms n m)]) 60 17 (ntmF T 17)).me (jY (yQ T 17 [0, 1, 0, 1, 1]))) K q (hRc js ms n m cs c p) = bif cAll cs n k p then (K (.exit 0) ⟨[], []⟩) else (K .ret ⟨[(4, .v (.b false))], []⟩)
 | 0, p, q + 1, hp, hq => by
  refine (rdRc (fun σ => LF 60 (cxF T (OrL.k [(45, qGZ js ms n m)]) 60 17 (ntmF T 17)) (ckF T (OrL.k [(45, qGZ js ms n m)]) 60) (yQ T 17 [0, 1, 0, 1, 1]) ((cxF T (OrL.k [(45, qGZ js ms n m)]) 60 17 (ntmF T 17)).T.hint (cxF T (OrL.k [(45, qGZ js ms n m)]) 60 17 (ntmF T 17)).me (jY (yQ T 17 [0, 1, 0, 1, 1]))) K q σ) K js ms n m cs c p).trans ?_
  rw [decide_eq_false (show ¬ (p : Int) < (c : Int) by omega)]
  rfl
 | k + 1, p, q + 1, hp, hq => by
  refine (rdRc (fun σ => LF 60 (cxF T (OrL.k [(45, qGZ js ms n m)]) 60 17 (ntmF T 17)) (ckF T (OrL.k [(45, qGZ js ms n m)]) 60) (yQ T 17 [0, 1, 0, 1, 1]) ((cxF T (OrL.k [(45, qGZ js ms n m)]) 60 17 (ntmF T 17)).T.hint (cxF T (OrL.k [(45, qGZ js ms n m)]) 60 17 (ntmF T 17)).me (jY (yQ T 17 [0, 1, 0, 1, 1]))) K q σ) K js ms n m cs c p).trans ?_
  rw [decide_eq_true (show (p : Int) < (c : Int) by omega), qYU (show p < c by omega), qWV (by omega), lpRc K js ms n m cs c hc k (p + 1) q (by omega) (by omega), toN, cTRc_eq]
  by_cases hq : conB n (cs p) = true
  ·simp only [cAll, hq, cond_true, Bool.true_and]
  ·rw [Bool.not_eq_true] at hq
   simp only [cAll, hq, cond_true, cond_false, Bool.false_and]
set_option maxRecDepth 100000 in
theorem pxRc (js : Nat → J) (ms : Nat → Ms) (n m : Nat) (cs : Nat → Cn) (c : Nat) : runKL T (OrL.k [(45, qGZ js ms n m)]) (qQU [([0, 1, 0, 1, 1], sumAt (hRc js ms n m cs c 0) (fun K => bif decide (8 < (c : Int)) then none else (bif cAll cs n c 0 then (K (.exit 0) ⟨[], []⟩) else (K .ret ⟨[(4, .v (.b false))], []⟩))))]) 60 17 [(.a [.lf n (fJ js), .lf m (fM ms)]), .lf c (fC cs)] =
 (bif (gEq (.a [.lf n (fJ js), .lf m (fM ms)]) (.a [.lf n (fJ js), .lf m (fM ms)])) then (bif (!decide ((rErr js ms n m) = 0)) then some (.v (.b false), [])
 else (bif (decide (8 < (c : Int))) then some (.v (.b false), [])
 else (bif gSt (hRc js ms n m cs c 0) (hRc js ms n m cs c 0) then (bif decide (8 < (c : Int)) then none else (bif cAll cs n c 0 then some (.v (.b true), []) else some (.v (.b false), []))) else none)))
 else none) := by kernel_rfl
theorem snd_Rc (js : Nat → J) (ms : Nat → Ms) (n m : Nat) (cs : Nat → Cn) (c : Nat) : SndA1 Tryz.prog 17 [(.a [.lf n (fJ js), .lf m (fM ms)]), .lf c (fC cs)] (.v (.b (cErr js ms n m cs c))) := by
 refine uZ (N := 60) (LO := qQU [([0, 1, 0, 1, 1], sumAt (hRc js ms n m cs c 0) (fun K => bif decide (8 < (c : Int)) then none else (bif cAll cs n c 0 then (K (.exit 0) ⟨[], []⟩) else (K .ret ⟨[(4, .v (.b false))], []⟩))))]) tabOk mixed (OrL.ok (l := [(45, qGZ js ms n m)]) ⟨ok_kRc js ms n m, trivial⟩) (fun p S hp => ?_) ?_
 ·refine qQK (L := yQ T 17) (l := [([0, 1, 0, 1, 1], sumAt (hRc js ms n m cs c 0) (fun K => bif decide (8 < (c : Int)) then none else (bif cAll cs n c 0 then (K (.exit 0) ⟨[], []⟩) else (K .ret ⟨[(4, .v (.b false))], []⟩))))]) (show AllP _ [([0, 1, 0, 1, 1], sumAt (hRc js ms n m cs c 0) (fun K => bif decide (8 < (c : Int)) then none else (bif cAll cs n c 0 then (K (.exit 0) ⟨[], []⟩) else (K .ret ⟨[(4, .v (.b false))], []⟩))))] from ⟨qZX fun K r hr => ?_, trivial⟩) p S hp
  cases hq : decide (8 < (c : Int)) with
  | true => rw [hq] at hr; cases hr
  | false =>
   rw [hq] at hr
   have h8 := of_decide_eq_false hq
   exact (lpRc K js ms n m cs c (by omega) c 0 60 (by omega) (by omega)).trans hr
 ·refine (pxRc js ms n m cs c).trans ?_
  unfold cErr
  rw [qZV, gEq_self]
  cases decide (rErr js ms n m = 0) <;> cases decide (8 < (c : Int)) <;> cases cAll cs n c 0 <;> rfl
end Go.Proofs.YtmbnpjpggccefaaGreat.Nd
namespace Go.Proofs.YtmbnpjpggccefaaGreat.Ng
open Go.Rx Rt Go.Sx Go.RowKit Od Ov Pc Na Nb Nc Nd Nx Nf
noncomputable def vr (c : Cn) (p : Po) : Int × Int := bif decide (c.kind = 1) then (dot (Z3.mk c.n.x c.n.y c.n.z).x (Z3.mk c.n.x c.n.y c.n.z).y (Z3.mk c.n.x c.n.y c.n.z).z (M3.apply p.r (V3.of (Z3.mk c.p.x c.p.y c.p.z))).x.lo (M3.apply p.r (V3.of (Z3.mk c.p.x c.p.y c.p.z))).x.hi (M3.apply p.r (V3.of (Z3.mk c.p.x c.p.y c.p.z))).y.lo (M3.apply p.r (V3.of (Z3.mk c.p.x c.p.y c.p.z))).y.hi (M3.apply p.r (V3.of (Z3.mk c.p.x c.p.y c.p.z))).z.lo (M3.apply p.r (V3.of (Z3.mk c.p.x c.p.y c.p.z))).z.hi) else (dot (Z3.mk c.n.x c.n.y c.n.z).x (Z3.mk c.n.x c.n.y c.n.z).y (Z3.mk c.n.x c.n.y c.n.z).z (Po.app p (V3.of (Z3.mk c.p.x c.p.y c.p.z))).x.lo (Po.app p (V3.of (Z3.mk c.p.x c.p.y c.p.z))).x.hi (Po.app p (V3.of (Z3.mk c.p.x c.p.y c.p.z))).y.lo (Po.app p (V3.of (Z3.mk c.p.x c.p.y c.p.z))).y.hi (Po.app p (V3.of (Z3.mk c.p.x c.p.y c.p.z))).z.lo (Po.app p (V3.of (Z3.mk c.p.x c.p.y c.p.z))).z.hi)
def vOk (js : Nat → J) (ms : Nat → Ms) (bx : Nat → Iv) (n m k : Nat) (c : Cn) : Bool := (cErr js ms n m (fun _ => c) 1) && pIn js ms bx n m k
noncomputable def vLo (js : Nat → J) (ms : Nat → Ms) (bx : Nat → Iv) (n m k : Nat) (c : Cn) : Int := bif vOk js ms bx n m k c then (vr c (LP js bx n c.link.toNat)).1 else 0
noncomputable def vHi (js : Nat → J) (ms : Nat → Ms) (bx : Nat → Iv) (n m k : Nat) (c : Cn) : Int := bif vOk js ms bx n m k c then (vr c (LP js bx n c.link.toNat)).2 else 0
theorem qVQ {js : Nat → J} {ms : Nat → Ms} {n m : Nat} {cs : Nat → Cn} {c : Nat} (h : cErr js ms n m cs c = true) : rErr js ms n m = 0 ∧ c ≤ 8 ∧ ∀ i, i < c → COK n (cs i) := by
 unfold cErr at h
 simp only [Bool.and_eq_true, decide_eq_true_eq, Bool.not_eq_true', decide_eq_false_iff_not] at h
 refine ⟨h.1, by omega, ?_⟩
 have key : ∀ k p, cAll cs n k p = true → ∀ i, p ≤ i → i < p + k → COK n (cs i) := by
  intro k
  induction k with
  | zero => intro p _ i h1 h2; omega
  | succ k ih =>
   intro p hp i h1 h2
   unfold cAll at hp
   rw [Bool.and_eq_true] at hp
   rcases Nat.eq_or_lt_of_le h1 with e | e
   ·subst e
    exact of_decide_eq_true hp.1
   ·exact ih (p + 1) hp.2 i e (by omega)
 exact fun i hi => key c 0 h.2.2 i (Nat.zero_le _) (by omega)
theorem one_cn (c : Cn) : ([cp c] : List (List PV)) = (List.range 1).map (fC (fun _ => c)) := rfl
theorem snd_Rc1 (js : Nat → J) (ms : Nat → Ms) (n m : Nat) (c : Cn) : SndA1 Tryz.prog 17 [.a [.lf n (fJ js), .lf m (fM ms)], .l [cp c]] (.v (.b (cErr js ms n m (fun _ => c) 1))) := snd_same (ps := [.a [.lf n (fJ js), .lf m (fM ms)], .lf 1 (fC (fun _ => c))]) ⟨Same.refl _, Same.lf (one_cn c), trivial⟩ (Same.refl _) (snd_Rc js ms n m (fun _ => c) 1)
noncomputable def zZQ (as_ : List PV) (g : Bool) (r : Ret) : List PV → Option (Bool × Ret) := fun ps => some (gEq (.t ps) (.t as_) && g, r)
theorem zYY {f : Nat} {as_ : List PV} {g : Bool} {r : Ret} (h : g = true → SndA1 Tryz.prog f as_ r) : OneOk Tryz.prog f (zZQ as_ g r) := by
 intro ps q hh
 unfold zZQ at hh
 simp only [Option.some.injEq, Prod.mk.injEq, Bool.and_eq_true] at hh
 obtain ⟨⟨hg, hb⟩, rfl⟩ := hh
 have := zQZ hg
 simp only [PV.t.injEq] at this
 rw [this]
 exact h hb
theorem pIn_links (js : Nat → J) (ms : Nat → Ms) (bx : Nat → Iv) (n m k : Nat) (h : pIn js ms bx n m k = true) : SndA1 Tryz.prog 35 [.a [.lf n (fJ js), .lf m (fM ms)], .lf k (fB bx)] (.v (.lf n (fP (LP js bx n)))) := by
 obtain ⟨h0, rfl, hv⟩ := pIn_n h
 exact snd_ka js ms bx n m h0 (allN_iff.2 fun i _ hi => hv i (by omega))
theorem rIn_links (js : Nat → J) (ms : Nat → Ms) (bx : Nat → Iv) (n m k : Nat) (h : pIn js ms bx n m k = true) : SndA1 Tryz.prog 36 [.a [.lf n (fJ js), .lf m (fM ms)], .lf k (fB bx)] (.v (.lf n (fP (LP js bx n)))) := by
 obtain ⟨h0, rfl, hv⟩ := pIn_n h
 exact snd_rl js ms bx n m h0 (allN_iff.2 fun i _ hi => hv i (by omega))
theorem inB_link {n : Nat} {x : Int} (h : 0 ≤ x ∧ x < (n : Int)) : inB x n = true := by
 unfold inB
 rw [decide_eq_true h.1, decide_eq_true (show x.toNat < n by omega)]; rfl
noncomputable def o_rPoint : List PV → Option (Bool × Ret) := fun ps => match ps with
 | [.a z'] => (z3D z').bind fun z => some (true, .v (.a (v3C (V3.of z))))
 | _ => none
theorem ok_rPoint : OneOk Tryz.prog 33 o_rPoint := by
 intro ps r h
 unfold o_rPoint at h
 split at h
 ·simp only [Option.bind_eq_some_iff, Option.some.injEq, Prod.mk.injEq] at h
  obtain ⟨z, hz, hg, rfl⟩ := h
  rw [z3D_eq hz]
  exact yJ (zZ Tryz.func33 (by kernel_rfl) (by kernel_rfl)) rfl rfl (fun w => zZX _ _ _ w)
 ·cases h
noncomputable def L13 : OrL := (33, o_rPoint) :: L12
theorem L13_ok : AllP (fun x : Nat × (List PV → Option (Bool × Ret)) => OneOk Tryz.prog x.1 x.2) L13 := ⟨ok_rPoint, L12_ok⟩
noncomputable def o_qApply : List PV → Option (Bool × Ret) := fun ps => match ps with
 | [.a p', .a v'] => (poD p').bind fun p => (v3D v').bind fun v => some (true, .v (.a (v3C (Po.app p v))))
 | _ => none
theorem ok_qApply : OneOk Tryz.prog 32 o_qApply := by
 intro ps r h
 unfold o_qApply at h
 split at h
 ·simp only [Option.bind_eq_some_iff, Option.some.injEq, Prod.mk.injEq] at h
  obtain ⟨p, hp, v, hv, hg, rfl⟩ := h
  rw [poD_eq hp]
  rw [v3D_eq hv]
  exact yJ (zZ Tryz.func32 (by kernel_rfl) (by kernel_rfl)) rfl rfl (fun w => qApply _ _ _ _ _ _ _ _ _ _ _ _ _ _ _ _ _ _ _ _ _ _ _ _ _ _ _ _ _ _ w)
 ·cases h
noncomputable def L14 : OrL := (32, o_qApply) :: L13
theorem L14_ok : AllP (fun x : Nat × (List PV → Option (Bool × Ret)) => OneOk Tryz.prog x.1 x.2) L14 := ⟨ok_qApply, L13_ok⟩
noncomputable def o_rApply : List PV → Option (Bool × Ret) := fun ps => match ps with
 | [.a m', .a v'] => (m3D m').bind fun m => (v3D v').bind fun v => some (true, .v (.a (v3C (M3.apply m v))))
 | _ => none
theorem ok_rApply : OneOk Tryz.prog 63 o_rApply := by
 intro ps r h
 unfold o_rApply at h
 split at h
 ·simp only [Option.bind_eq_some_iff, Option.some.injEq, Prod.mk.injEq] at h
  obtain ⟨m, hm, v, hv, hg, rfl⟩ := h
  rw [m3D_eq hm]
  rw [v3D_eq hv]
  exact yJ (zZ Tryz.func63 (by kernel_rfl) (by kernel_rfl)) rfl rfl (fun w => rApply _ _ _ _ _ _ _ _ _ _ _ _ _ _ _ _ _ _ _ _ _ _ _ _ w)
 ·cases h
noncomputable def L15 : OrL := (63, o_rApply) :: L14
theorem L15_ok : AllP (fun x : Nat × (List PV → Option (Bool × Ret)) => OneOk Tryz.prog x.1 x.2) L15 := ⟨ok_rApply, L14_ok⟩
set_option maxRecDepth 100000 in
theorem tr_rDot (nx : Int) (ny : Int) (nz : Int) (v0 : Int) (v1 : Int) (v2 : Int) (v3 : Int) (v4 : Int) (v5 : Int) : runK T (OrL.k L15) 60 87 [.a [.n .i64 nx, .n .i64 ny, .n .i64 nz], .a [.n .i64 v0, .n .i64 v1, .n .i64 v2, .n .i64 v3, .n .i64 v4, .n .i64 v5]] =
 bif (!((decide (nx = 0)) && ((decide (ny = 0)) && ((decide (nz = 0)) && true)))) then (bif (decide (nx < (-16384))) then some (.v (.t [.n .i64 0, .n .i64 0]), [])
  else bif (decide (16384 < nx)) then some (.v (.t [.n .i64 0, .n .i64 0]), [])
  else bif (decide (ny < (-16384))) then some (.v (.t [.n .i64 0, .n .i64 0]), [])
  else bif (decide (16384 < ny)) then some (.v (.t [.n .i64 0, .n .i64 0]), [])
  else bif (decide (nz < (-16384))) then some (.v (.t [.n .i64 0, .n .i64 0]), [])
  else bif (decide (16384 < nz)) then some (.v (.t [.n .i64 0, .n .i64 0]), [])
  else bif (decide (v0 < (-268435456))) then some (.v (.t [.n .i64 0, .n .i64 0]), [])
  else bif (decide (v1 < v0)) then some (.v (.t [.n .i64 0, .n .i64 0]), [])
  else bif (decide (268435456 < v1)) then some (.v (.t [.n .i64 0, .n .i64 0]), [])
  else bif (decide (v2 < (-268435456))) then some (.v (.t [.n .i64 0, .n .i64 0]), [])
  else bif (decide (v3 < v2)) then some (.v (.t [.n .i64 0, .n .i64 0]), [])
  else bif (decide (268435456 < v3)) then some (.v (.t [.n .i64 0, .n .i64 0]), [])
  else bif (decide (v4 < (-268435456))) then some (.v (.t [.n .i64 0, .n .i64 0]), [])
  else bif (decide (v5 < v4)) then some (.v (.t [.n .i64 0, .n .i64 0]), [])
  else bif (decide (268435456 < v5)) then some (.v (.t [.n .i64 0, .n .i64 0]), [])
  else some (.v (.t [.n .i64 (IntKind.i64.wrap ((IntKind.i64.wrap ((IntKind.i64.wrap (0 + (min (IntKind.i64.wrap (nx * v0)) (IntKind.i64.wrap (nx * v1))))) + (min (IntKind.i64.wrap (ny * v2)) (IntKind.i64.wrap (ny * v3))))) + (min (IntKind.i64.wrap (nz * v4)) (IntKind.i64.wrap (nz * v5))))), .n .i64 (IntKind.i64.wrap ((IntKind.i64.wrap ((IntKind.i64.wrap (0 + (max (IntKind.i64.wrap (nx * v0)) (IntKind.i64.wrap (nx * v1))))) + (max (IntKind.i64.wrap (ny * v2)) (IntKind.i64.wrap (ny * v3))))) + (max (IntKind.i64.wrap (nz * v4)) (IntKind.i64.wrap (nz * v5)))))]), []))
 else some (.v (.t [.n .i64 0, .n .i64 0]), []) := by kernel_rfl
theorem sp_rDot (nx ny nz v0 v1 v2 v3 v4 v5 : Int) : runK T (OrL.k L15) 60 87 [.a [.n .i64 nx, .n .i64 ny, .n .i64 nz], .a [.n .i64 v0, .n .i64 v1, .n .i64 v2, .n .i64 v3, .n .i64 v4, .n .i64 v5]] = some (.v (.t [.n .i64 (dot nx ny nz v0 v1 v2 v3 v4 v5).1, .n .i64 (dot nx ny nz v0 v1 v2 v3 v4 v5).2]), []) := by
 rw [tr_rDot, ← sp_sDot, tr_sDot]
 cases (!((decide (nx = 0)) && ((decide (ny = 0)) && ((decide (nz = 0)) && true)))) with
 | true => rfl
 | false => simp only [cond_false, Bool.cond_self]
noncomputable def o_rDot : List PV → Option (Bool × Ret) := fun ps => match ps with
 | [.a z', .a v'] => (z3D z').bind fun z => (v3D v').bind fun v => some (true, .v (.t [.n .i64 (dot z.x z.y z.z v.x.lo v.x.hi v.y.lo v.y.hi v.z.lo v.z.hi).1, .n .i64 (dot z.x z.y z.z v.x.lo v.x.hi v.y.lo v.y.hi v.z.lo v.z.hi).2]))
 | _ => none
theorem ok_rDot : OneOk Tryz.prog 87 o_rDot := by
 intro ps r h
 unfold o_rDot at h
 split at h
 ·simp only [Option.bind_eq_some_iff, Option.some.injEq, Prod.mk.injEq] at h
  obtain ⟨z, hz, v, hv, hg, rfl⟩ := h
  rw [z3D_eq hz]
  rw [v3D_eq hv]
  exact yV tabOk mixed (OrL.ok L15_ok) (sp_rDot _ _ _ _ _ _ _ _ _)
 ·cases h
noncomputable def L16 : OrL := (87, o_rDot) :: L15
theorem L16_ok : AllP (fun x : Nat × (List PV → Option (Bool × Ret)) => OneOk Tryz.prog x.1 x.2) L16 := ⟨ok_rDot, L15_ok⟩
set_option maxRecDepth 100000 in
theorem tr_RV (js : Nat → J) (ms : Nat → Ms) (bx : Nat → Iv) (n m k : Nat) (c : Cn) : runK T (OrL.k ((17, qXH [.a [.lf n (fJ js), .lf m (fM ms)], .l [cp c]] (.v (.b (cErr js ms n m (fun _ => c) 1)))) :: (86, qXH [.a [.lf n (fJ js), .lf m (fM ms)], .lf k (fB bx)] (.v (.b (rIn js ms bx n m k)))) :: (36, zZQ [.a [.lf n (fJ js), .lf m (fM ms)], .lf k (fB bx)] (pIn js ms bx n m k) (.v (.lf n (fP (LP js bx n))))) :: L16)) 60 48 [.a [.lf n (fJ js), .lf m (fM ms)], .a (cp c), .lf k (fB bx)] =
 bif (g1 [.a [.lf n (fJ js), .lf m (fM ms)], .l [(cp c)]]) then (bif (cErr js ms n m (fun _ => c) 1) then (bif (g1 [.a [.lf n (fJ js), .lf m (fM ms)], .lf k (fB bx)]) then (bif (rIn js ms bx n m k) then (bif (g1 [.a [.lf n (fJ js), .lf m (fM ms)], .lf k (fB bx)] && pIn js ms bx n m k) then (bif (inB c.link n) then (bif (decide (c.kind = 0)) then some (.v (.t [.a [.n .i64 (dot (Z3.mk c.n.x c.n.y c.n.z).x (Z3.mk c.n.x c.n.y c.n.z).y (Z3.mk c.n.x c.n.y c.n.z).z (Po.app (LP js bx n (c.link).toNat) (V3.of (Z3.mk c.p.x c.p.y c.p.z))).x.lo (Po.app (LP js bx n (c.link).toNat) (V3.of (Z3.mk c.p.x c.p.y c.p.z))).x.hi (Po.app (LP js bx n (c.link).toNat) (V3.of (Z3.mk c.p.x c.p.y c.p.z))).y.lo (Po.app (LP js bx n (c.link).toNat) (V3.of (Z3.mk c.p.x c.p.y c.p.z))).y.hi (Po.app (LP js bx n (c.link).toNat) (V3.of (Z3.mk c.p.x c.p.y c.p.z))).z.lo (Po.app (LP js bx n (c.link).toNat) (V3.of (Z3.mk c.p.x c.p.y c.p.z))).z.hi).1, .n .i64 (dot (Z3.mk c.n.x c.n.y c.n.z).x (Z3.mk c.n.x c.n.y c.n.z).y (Z3.mk c.n.x c.n.y c.n.z).z (Po.app (LP js bx n (c.link).toNat) (V3.of (Z3.mk c.p.x c.p.y c.p.z))).x.lo (Po.app (LP js bx n (c.link).toNat) (V3.of (Z3.mk c.p.x c.p.y c.p.z))).x.hi (Po.app (LP js bx n (c.link).toNat) (V3.of (Z3.mk c.p.x c.p.y c.p.z))).y.lo (Po.app (LP js bx n (c.link).toNat) (V3.of (Z3.mk c.p.x c.p.y c.p.z))).y.hi (Po.app (LP js bx n (c.link).toNat) (V3.of (Z3.mk c.p.x c.p.y c.p.z))).z.lo (Po.app (LP js bx n (c.link).toNat) (V3.of (Z3.mk c.p.x c.p.y c.p.z))).z.hi).2], .b true]), [])
 else some (.v (.t [.a [.n .i64 (dot (Z3.mk c.n.x c.n.y c.n.z).x (Z3.mk c.n.x c.n.y c.n.z).y (Z3.mk c.n.x c.n.y c.n.z).z (M3.apply (LP js bx n (c.link).toNat).r (V3.of (Z3.mk c.p.x c.p.y c.p.z))).x.lo (M3.apply (LP js bx n (c.link).toNat).r (V3.of (Z3.mk c.p.x c.p.y c.p.z))).x.hi (M3.apply (LP js bx n (c.link).toNat).r (V3.of (Z3.mk c.p.x c.p.y c.p.z))).y.lo (M3.apply (LP js bx n (c.link).toNat).r (V3.of (Z3.mk c.p.x c.p.y c.p.z))).y.hi (M3.apply (LP js bx n (c.link).toNat).r (V3.of (Z3.mk c.p.x c.p.y c.p.z))).z.lo (M3.apply (LP js bx n (c.link).toNat).r (V3.of (Z3.mk c.p.x c.p.y c.p.z))).z.hi).1, .n .i64 (dot (Z3.mk c.n.x c.n.y c.n.z).x (Z3.mk c.n.x c.n.y c.n.z).y (Z3.mk c.n.x c.n.y c.n.z).z (M3.apply (LP js bx n (c.link).toNat).r (V3.of (Z3.mk c.p.x c.p.y c.p.z))).x.lo (M3.apply (LP js bx n (c.link).toNat).r (V3.of (Z3.mk c.p.x c.p.y c.p.z))).x.hi (M3.apply (LP js bx n (c.link).toNat).r (V3.of (Z3.mk c.p.x c.p.y c.p.z))).y.lo (M3.apply (LP js bx n (c.link).toNat).r (V3.of (Z3.mk c.p.x c.p.y c.p.z))).y.hi (M3.apply (LP js bx n (c.link).toNat).r (V3.of (Z3.mk c.p.x c.p.y c.p.z))).z.lo (M3.apply (LP js bx n (c.link).toNat).r (V3.of (Z3.mk c.p.x c.p.y c.p.z))).z.hi).2], .b true]), []))
 else none)
 else none)
 else some (.v (.t [.a [.n .i64 0, .n .i64 0], .b false]), []))
 else none)
 else some (.v (.t [.a [.n .i64 0, .n .i64 0], .b false]), []))
 else none := by kernel_rfl
theorem snd_RV (js : Nat → J) (ms : Nat → Ms) (bx : Nat → Iv) (n m k : Nat) (c : Cn) (hkk : k ≤ 50) : SndA1 Tryz.prog 48 [.a [.lf n (fJ js), .lf m (fM ms)], .a (cp c), .lf k (fB bx)] (.v (.t [.a [.n .i64 (vLo js ms bx n m k c), .n .i64 (vHi js ms bx n m k c)], .b (vOk js ms bx n m k c)])) := by
 refine yV (N := 60) tabOk mixed (OrL.ok (l := ((17, qXH [.a [.lf n (fJ js), .lf m (fM ms)], .l [cp c]] (.v (.b (cErr js ms n m (fun _ => c) 1)))) :: (86, qXH [.a [.lf n (fJ js), .lf m (fM ms)], .lf k (fB bx)] (.v (.b (rIn js ms bx n m k)))) :: (36, zZQ [.a [.lf n (fJ js), .lf m (fM ms)], .lf k (fB bx)] (pIn js ms bx n m k) (.v (.lf n (fP (LP js bx n))))) :: L16)) ⟨qVJ (snd_Rc1 js ms n m c), qVJ (snd_rIn js ms bx n m k hkk), zYY (fun h => rIn_links js ms bx n m k h), L16_ok⟩) ?_
 refine (tr_RV js ms bx n m k c).trans ?_
 unfold vLo vHi vOk
 simp only [zYZ, Bool.true_and]
 rw [in_eq]
 cases hc : (cErr js ms n m (fun _ => c) 1) with
 | false => rfl
 | true =>
  cases hi : pIn js ms bx n m k with
  | false => rfl
  | true =>
   obtain ⟨_, _, hh⟩ := qVQ hc
   have hk := (hh 0 (by omega)).2.1
   have hkk := (hh 0 (by omega)).1
   simp only [cond_true, Bool.and_self, inB_link hk]
   unfold vr
   rcases hkk with h | h
   ·rw [decide_eq_true h, decide_eq_false (show ¬ c.kind = 1 by omega)]; rfl
   ·rw [decide_eq_false (show ¬ c.kind = 0 by omega), decide_eq_true h]; rfl
end Go.Proofs.YtmbnpjpggccefaaGreat.Ng
namespace Go.Proofs.YtmbnpjpggccefaaGreat.Nj
open Go.Rx Rt Go.Sx Go.RowKit Od Ov Pc Na Nb Nc Nd Nx Nf Ng
noncomputable def vI (js : Nat → J) (bx : Nat → Iv) (n : Nat) (cs : Nat → Cn) : Nat → Iv := fun i => ⟨(vr (cs i) (LP js bx n (cs i).link.toNat)).1, (vr (cs i) (LP js bx n (cs i).link.toNat)).2⟩
def hVa (js : Nat → J) (ms : Nat → Ms) (bx : Nat → Iv) (n m k : Nat) (cs : Nat → Cn) (c : Nat) (i : Int) (rows : List (List PV)) : St := ⟨[(7, .v (.lf n (fun v => [.n .i64 (LP js bx n v).r.x.x.lo, .n .i64 (LP js bx n v).r.x.x.hi, .n .i64 (LP js bx n v).r.x.y.lo, .n .i64 (LP js bx n v).r.x.y.hi, .n .i64 (LP js bx n v).r.x.z.lo, .n .i64 (LP js bx n v).r.x.z.hi, .n .i64 (LP js bx n v).r.y.x.lo, .n .i64 (LP js bx n v).r.y.x.hi, .n .i64 (LP js bx n v).r.y.y.lo, .n .i64 (LP js bx n v).r.y.y.hi, .n .i64 (LP js bx n v).r.y.z.lo, .n .i64 (LP js bx n v).r.y.z.hi, .n .i64 (LP js bx n v).r.z.x.lo, .n .i64 (LP js bx n v).r.z.x.hi, .n .i64 (LP js bx n v).r.z.y.lo, .n .i64 (LP js bx n v).r.z.y.hi, .n .i64 (LP js bx n v).r.z.z.lo, .n .i64 (LP js bx n v).r.z.z.hi, .n .i64 (LP js bx n v).t.x.lo, .n .i64 (LP js bx n v).t.x.hi, .n .i64 (LP js bx n v).t.y.lo, .n .i64 (LP js bx n v).t.y.hi, .n .i64 (LP js bx n v).t.z.lo, .n .i64 (LP js bx n v).t.z.hi]))), (8, .o 20), (21, .v (.lf c (fC cs))), (22, .v (.n .i64 (c : Int))), (23, .v (.n .i64 i))], [(20, .reg 52 2 (.l rows))]⟩
set_option maxRecDepth 100000 in
theorem rdVa (G : St → Option (Ret × Mem)) (K : Cont) (js : Nat → J) (ms : Nat → Ms) (bx : Nat → Iv) (n m k : Nat) (cs : Nat → Cn) (c : Nat) (i : Int) (rows : List (List PV)) : stepR 60 (cxF T (OrL.k ((35, zZQ [.a [.lf n (fJ js), .lf m (fM ms)], .lf k (fB bx)] (pIn js ms bx n m k) (.v (.lf n (fP (LP js bx n))))) :: L16)) 60 53 (ntmF T 53)) (ckF T (OrL.k ((35, zZQ [.a [.lf n (fJ js), .lf m (fM ms)], .lf k (fB bx)] (pIn js ms bx n m k) (.v (.lf n (fP (LP js bx n))))) :: L16)) 60) (yQ T 53 [0, 1, 0, 1, 1, 1]) ((cxF T (OrL.k ((35, zZQ [.a [.lf n (fJ js), .lf m (fM ms)], .lf k (fB bx)] (pIn js ms bx n m k) (.v (.lf n (fP (LP js bx n))))) :: L16)) 60 53 (ntmF T 53)).T.hint (cxF T (OrL.k ((35, zZQ [.a [.lf n (fJ js), .lf m (fM ms)], .lf k (fB bx)] (pIn js ms bx n m k) (.v (.lf n (fP (LP js bx n))))) :: L16)) 60 53 (ntmF T 53)).me (jY (yQ T 53 [0, 1, 0, 1, 1, 1]))) K G (hVa js ms bx n m k cs c i rows) =
 (bif (decide (i < (c : Int))) then (bif (inB i c) then (bif (decide ((cs (i).toNat).kind = 1)) then (bif (inB (cs (i).toNat).link n) then (bif (decide (rows.length + 1 ≤ 1000000)) then (G (hVa js ms bx n m k cs c (IntKind.i64.wrap (i + 1)) ((rows ++ [[.n .i64 (dot (cs (i).toNat).n.x (cs (i).toNat).n.y (cs (i).toNat).n.z (M3.apply (LP js bx n ((cs (i).toNat).link).toNat).r (V3.of (cs (i).toNat).p)).x.lo (M3.apply (LP js bx n ((cs (i).toNat).link).toNat).r (V3.of (cs (i).toNat).p)).x.hi (M3.apply (LP js bx n ((cs (i).toNat).link).toNat).r (V3.of (cs (i).toNat).p)).y.lo (M3.apply (LP js bx n ((cs (i).toNat).link).toNat).r (V3.of (cs (i).toNat).p)).y.hi (M3.apply (LP js bx n ((cs (i).toNat).link).toNat).r (V3.of (cs (i).toNat).p)).z.lo (M3.apply (LP js bx n ((cs (i).toNat).link).toNat).r (V3.of (cs (i).toNat).p)).z.hi).1, .n .i64 (dot (cs (i).toNat).n.x (cs (i).toNat).n.y (cs (i).toNat).n.z (M3.apply (LP js bx n ((cs (i).toNat).link).toNat).r (V3.of (cs (i).toNat).p)).x.lo (M3.apply (LP js bx n ((cs (i).toNat).link).toNat).r (V3.of (cs (i).toNat).p)).x.hi (M3.apply (LP js bx n ((cs (i).toNat).link).toNat).r (V3.of (cs (i).toNat).p)).y.lo (M3.apply (LP js bx n ((cs (i).toNat).link).toNat).r (V3.of (cs (i).toNat).p)).y.hi (M3.apply (LP js bx n ((cs (i).toNat).link).toNat).r (V3.of (cs (i).toNat).p)).z.lo (M3.apply (LP js bx n ((cs (i).toNat).link).toNat).r (V3.of (cs (i).toNat).p)).z.hi).2]]))))
 else none)
 else none)
 else (bif (inB (cs (i).toNat).link n) then (bif (decide (rows.length + 1 ≤ 1000000)) then (G (hVa js ms bx n m k cs c (IntKind.i64.wrap (i + 1)) ((rows ++ [[.n .i64 (dot (cs (i).toNat).n.x (cs (i).toNat).n.y (cs (i).toNat).n.z (Po.app (LP js bx n ((cs (i).toNat).link).toNat) (V3.of (cs (i).toNat).p)).x.lo (Po.app (LP js bx n ((cs (i).toNat).link).toNat) (V3.of (cs (i).toNat).p)).x.hi (Po.app (LP js bx n ((cs (i).toNat).link).toNat) (V3.of (cs (i).toNat).p)).y.lo (Po.app (LP js bx n ((cs (i).toNat).link).toNat) (V3.of (cs (i).toNat).p)).y.hi (Po.app (LP js bx n ((cs (i).toNat).link).toNat) (V3.of (cs (i).toNat).p)).z.lo (Po.app (LP js bx n ((cs (i).toNat).link).toNat) (V3.of (cs (i).toNat).p)).z.hi).1, .n .i64 (dot (cs (i).toNat).n.x (cs (i).toNat).n.y (cs (i).toNat).n.z (Po.app (LP js bx n ((cs (i).toNat).link).toNat) (V3.of (cs (i).toNat).p)).x.lo (Po.app (LP js bx n ((cs (i).toNat).link).toNat) (V3.of (cs (i).toNat).p)).x.hi (Po.app (LP js bx n ((cs (i).toNat).link).toNat) (V3.of (cs (i).toNat).p)).y.lo (Po.app (LP js bx n ((cs (i).toNat).link).toNat) (V3.of (cs (i).toNat).p)).y.hi (Po.app (LP js bx n ((cs (i).toNat).link).toNat) (V3.of (cs (i).toNat).p)).z.lo (Po.app (LP js bx n ((cs (i).toNat).link).toNat) (V3.of (cs (i).toNat).p)).z.hi).2]]))))
 else none)
 else none))
 else none)
 else (K (.exit 0) ⟨[(8, .o 20)], [(20, .reg 52 2 (.l rows))]⟩)) := by kernel_rfl
theorem lpVa (K : Cont) (js : Nat → J) (ms : Nat → Ms) (bx : Nat → Iv) (n m k : Nat) (cs : Nat → Cn) (c : Nat) (hc : (cErr js ms n m cs c) = true) : LF 60 (cxF T (OrL.k ((35, zZQ [.a [.lf n (fJ js), .lf m (fM ms)], .lf k (fB bx)] (pIn js ms bx n m k) (.v (.lf n (fP (LP js bx n))))) :: L16)) 60 53 (ntmF T 53)) (ckF T (OrL.k ((35, zZQ [.a [.lf n (fJ js), .lf m (fM ms)], .lf k (fB bx)] (pIn js ms bx n m k) (.v (.lf n (fP (LP js bx n))))) :: L16)) 60) (yQ T 53 [0, 1, 0, 1, 1, 1]) ((cxF T (OrL.k ((35, zZQ [.a [.lf n (fJ js), .lf m (fM ms)], .lf k (fB bx)] (pIn js ms bx n m k) (.v (.lf n (fP (LP js bx n))))) :: L16)) 60 53 (ntmF T 53)).T.hint (cxF T (OrL.k ((35, zZQ [.a [.lf n (fJ js), .lf m (fM ms)], .lf k (fB bx)] (pIn js ms bx n m k) (.v (.lf n (fP (LP js bx n))))) :: L16)) 60 53 (ntmF T 53)).me (jY (yQ T 53 [0, 1, 0, 1, 1, 1]))) K 60 (hVa js ms bx n m k cs c 0 []) = (K (.exit 0) ⟨[(8, .o 20)], [(20, .reg 52 2 (.l ((List.range c).map (fun i : Nat => [.n .i64 (vI js bx n cs i).lo, .n .i64 (vI js bx n cs i).hi]))))]⟩) := by
 obtain ⟨_, h8, hq⟩ := qVQ hc
 refine (lp_app (c := c) (hVa js ms bx n m k cs c) (fun i : Nat => [.n .i64 (vI js bx n cs i).lo, .n .i64 (vI js bx n cs i).hi]) (fun rows => (K (.exit 0) ⟨[(8, .o 20)], [(20, .reg 52 2 (.l rows))]⟩)) (fun G i rows hi hl => ?_) (fun G rows hl => ?_) c 0 60 [] rfl (by omega) (by omega)).trans (congrArg (fun rows => (K (.exit 0) ⟨[(8, .o 20)], [(20, .reg 52 2 (.l rows))]⟩)) (rng0 c _))
 ·refine (rdVa G K js ms bx n m k cs c i rows).trans ?_
  rw [decide_eq_true (show (i : Int) < (c : Int) by omega), qWV (by omega), qYU (show i < c by omega), decide_eq_true (show rows.length + 1 ≤ 1000000 by omega), toN, inB_link (hq i hi).2.1]
  unfold vI vr
  cases decide ((cs i).kind = 1) <;> rfl
 ·refine (rdVa G K js ms bx n m k cs c c rows).trans ?_
  rw [decide_eq_false (show ¬ (c : Int) < (c : Int) by omega)]
  rfl
set_option maxRecDepth 100000 in
theorem pxvals (js : Nat → J) (ms : Nat → Ms) (bx : Nat → Iv) (n m k : Nat) (cs : Nat → Cn) (c : Nat) : runKL T (OrL.k ((35, zZQ [.a [.lf n (fJ js), .lf m (fM ms)], .lf k (fB bx)] (pIn js ms bx n m k) (.v (.lf n (fP (LP js bx n))))) :: L16)) (qQU [([0, 1, 0, 1, 1, 1], sumAt (hVa js ms bx n m k cs c 0 []) (fun K => (bif (cErr js ms n m cs c) then (K (.exit 0) ⟨[(8, .o 20)], [(20, .reg 52 2 (.l ((List.range c).map (fun i : Nat => [.n .i64 (vI js bx n cs i).lo, .n .i64 (vI js bx n cs i).hi]))))]⟩) else none)))]) 60 53 [.a [.lf n (fJ js), .lf m (fM ms)], .lf c (fC cs), .lf k (fB bx)] =
 (bif (g1 [.a [.lf n (fJ js), .lf m (fM ms)], .lf k (fB bx)] && pIn js ms bx n m k) then (bif (decide (0 ≤ (c : Int))) then (bif (decide ((c : Int) ≤ 1000000)) then (bif (gSt (hVa js ms bx n m k cs c 0 []) (hVa js ms bx n m k cs c 0 [])) then (bif (cErr js ms n m cs c) then some (.ow 52 2 (.l ((List.range c).map (fun i : Nat => [.n .i64 (vI js bx n cs i).lo, .n .i64 (vI js bx n cs i).hi]))), [])
 else none)
 else none)
 else none)
 else none)
 else none) := by kernel_rfl
theorem snd_vals (js : Nat → J) (ms : Nat → Ms) (bx : Nat → Iv) (n m k : Nat) (cs : Nat → Cn) (c : Nat) (hc : (cErr js ms n m cs c) = true) (hp : pIn js ms bx n m k = true) : SndA1 Tryz.prog 53 [.a [.lf n (fJ js), .lf m (fM ms)], .lf c (fC cs), .lf k (fB bx)] (.ow 52 2 (.l ((List.range c).map (fun i : Nat => [.n .i64 (vI js bx n cs i).lo, .n .i64 (vI js bx n cs i).hi])))) := by
 refine uZ (N := 60) (LO := qQU [([0, 1, 0, 1, 1, 1], sumAt (hVa js ms bx n m k cs c 0 []) (fun K => (bif (cErr js ms n m cs c) then (K (.exit 0) ⟨[(8, .o 20)], [(20, .reg 52 2 (.l ((List.range c).map (fun i : Nat => [.n .i64 (vI js bx n cs i).lo, .n .i64 (vI js bx n cs i).hi]))))]⟩) else none)))]) tabOk mixed (OrL.ok (l := ((35, zZQ [.a [.lf n (fJ js), .lf m (fM ms)], .lf k (fB bx)] (pIn js ms bx n m k) (.v (.lf n (fP (LP js bx n))))) :: L16)) ⟨zYY (fun h => pIn_links js ms bx n m k h), L16_ok⟩) (fun p S hp => ?_) ?_
 ·refine qQK (L := yQ T 53) (l := [([0, 1, 0, 1, 1, 1], sumAt (hVa js ms bx n m k cs c 0 []) (fun K => (bif (cErr js ms n m cs c) then (K (.exit 0) ⟨[(8, .o 20)], [(20, .reg 52 2 (.l ((List.range c).map (fun i : Nat => [.n .i64 (vI js bx n cs i).lo, .n .i64 (vI js bx n cs i).hi]))))]⟩) else none)))]) (show AllP _ [([0, 1, 0, 1, 1, 1], sumAt (hVa js ms bx n m k cs c 0 []) (fun K => (bif (cErr js ms n m cs c) then (K (.exit 0) ⟨[(8, .o 20)], [(20, .reg 52 2 (.l ((List.range c).map (fun i : Nat => [.n .i64 (vI js bx n cs i).lo, .n .i64 (vI js bx n cs i).hi]))))]⟩) else none)))] from ⟨qZX fun K r hr => ?_, trivial⟩) p S hp
  ·obtain ⟨hg, hr⟩ := zG hr
   have hc := hg
   exact (lpVa K js ms bx n m k cs c hc).trans hr
 ·refine (pxvals js ms bx n m k cs c).trans ?_
  obtain ⟨_, h8, hq⟩ := qVQ hc
  rw [qZV, hc]
  simp only [zYZ, hp, Bool.and_self, cond_true, decide_eq_true (show (0 : Int) ≤ (c : Int) by omega), decide_eq_true (show (c : Int) ≤ 1000000 by omega)]
theorem snd_valsF (js : Nat → J) (ms : Nat → Ms) (bx : Nat → Iv) (n m k : Nat) (cs : Nat → Cn) (c : Nat) (hc : (cErr js ms n m cs c) = true) (hp : pIn js ms bx n m k = true) : SndA1 Tryz.prog 53 [.a [.lf n (fJ js), .lf m (fM ms)], .lf c (fC cs), .lf k (fB bx)] (.v (.lf c (fB (vI js bx n cs)))) := snd_res (Same.lf rfl) (snd_own (snd_vals js ms bx n m k cs c hc hp))
def hHo (cs : Nat → Cn) (vs : Nat → Iv) (c : Nat) (i : Int) : St := ⟨[(1, .v (.lf c (fB vs))), (7, .v (.lf c (fC cs))), (8, .v (.n .i64 (c : Int))), (9, .v (.n .i64 i))], []⟩
set_option maxRecDepth 100000 in
theorem rdHo (G : St → Option (Ret × Mem)) (K : Cont) (cs : Nat → Cn) (vs : Nat → Iv) (c : Nat) (i : Int) : stepR 60 (cxF T (OrL.k ([] : OrL)) 60 55 (ntmF T 55)) (ckF T (OrL.k ([] : OrL)) 60) (yQ T 55 [0, 1, 0, 1]) ((cxF T (OrL.k ([] : OrL)) 60 55 (ntmF T 55)).T.hint (cxF T (OrL.k ([] : OrL)) 60 55 (ntmF T 55)).me (jY (yQ T 55 [0, 1, 0, 1]))) K G (hHo cs vs c i) =
 (bif (decide (i < (c : Int))) then (bif (inB i c) then (bif (inB i c) then (bif (decide ((vs (i).toNat).lo < (cs (i).toNat).lo)) then (K .ret ⟨[(4, .v (.b false))], []⟩)
 else (bif (inB i c) then (bif (decide ((cs (i).toNat).hi < (vs (i).toNat).hi)) then (K .ret ⟨[(4, .v (.b false))], []⟩)
 else (G (hHo cs vs c (IntKind.i64.wrap (i + 1)))))
 else none))
 else none)
 else none)
 else (K (.exit 0) ⟨[], []⟩)) := by kernel_rfl
def inR (c : Cn) (v : Iv) : Bool := !(decide (v.lo < c.lo)) && !(decide (c.hi < v.hi))
def outR (c : Cn) (v : Iv) : Bool := decide (v.hi < c.lo) || decide (c.hi < v.lo)
theorem lpHo (K : Cont) (cs : Nat → Cn) (vs : Nat → Iv) (c : Nat) (hc : c ≤ 50) : LF 60 (cxF T (OrL.k ([] : OrL)) 60 55 (ntmF T 55)) (ckF T (OrL.k ([] : OrL)) 60) (yQ T 55 [0, 1, 0, 1]) ((cxF T (OrL.k ([] : OrL)) 60 55 (ntmF T 55)).T.hint (cxF T (OrL.k ([] : OrL)) 60 55 (ntmF T 55)).me (jY (yQ T 55 [0, 1, 0, 1]))) K 60 (hHo cs vs c 0) = bif (allN (fun i : Nat => inR (cs i) (vs i)) c 0) then (K (.exit 0) ⟨[], []⟩) else (K .ret ⟨[(4, .v (.b false))], []⟩) := by
 refine (zZZ (c := c) (hHo cs vs c) (fun i : Nat => inR (cs i) (vs i)) (K (.exit 0) ⟨[], []⟩) (fun i : Nat => (K .ret ⟨[(4, .v (.b false))], []⟩)) (fun G i hi => ?_) (fun G => ?_) c 0 60 (by omega) (by omega)).trans (runAll_all _ _ _ _ _)
 ·refine (rdHo G K cs vs c i).trans ?_
  rw [decide_eq_true (show (i : Int) < (c : Int) by omega), qWV (by omega), qYU (show i < c by omega), toN]
  unfold inR
  cases decide ((vs i).lo < (cs i).lo) <;> cases decide ((cs i).hi < (vs i).hi) <;> rfl
 ·refine (rdHo G K cs vs c c).trans ?_
  rw [decide_eq_false (show ¬ (c : Int) < (c : Int) by omega)]
  rfl
def holdB (cs : Nat → Cn) (vs : Nat → Iv) (c : Nat) : Bool := (allN (fun i : Nat => inR (cs i) (vs i)) c 0)
set_option maxRecDepth 100000 in
theorem pxhold (cs : Nat → Cn) (vs : Nat → Iv) (c : Nat) : runKL T (OrL.k ([] : OrL)) (qQU [([0, 1, 0, 1], sumAt (hHo cs vs c 0) (fun K => (bif (decide (c ≤ 50)) then (bif (allN (fun i : Nat => inR (cs i) (vs i)) c 0) then (K (.exit 0) ⟨[], []⟩) else (K .ret ⟨[(4, .v (.b false))], []⟩)) else none)))]) 60 55 [.lf c (fC cs), .lf c (fB vs)] =
 (bif (gSt (hHo cs vs c 0) (hHo cs vs c 0)) then (bif (decide (c ≤ 50)) then (bif (allN (fun i : Nat => inR (cs i) (vs i)) c 0) then some (.v (.b true), [])
 else some (.v (.b false), []))
 else none)
 else none) := by kernel_rfl
theorem snd_hold (cs : Nat → Cn) (vs : Nat → Iv) (c : Nat) (hc : c ≤ 50) : SndA1 Tryz.prog 55 [.lf c (fC cs), .lf c (fB vs)] (.v (.b (holdB cs vs c))) := by
 refine uZ (N := 60) (LO := qQU [([0, 1, 0, 1], sumAt (hHo cs vs c 0) (fun K => (bif (decide (c ≤ 50)) then (bif (allN (fun i : Nat => inR (cs i) (vs i)) c 0) then (K (.exit 0) ⟨[], []⟩) else (K .ret ⟨[(4, .v (.b false))], []⟩)) else none)))]) tabOk mixed (OrL.ok (l := ([] : OrL)) trivial) (fun p S hp => ?_) ?_
 ·refine qQK (L := yQ T 55) (l := [([0, 1, 0, 1], sumAt (hHo cs vs c 0) (fun K => (bif (decide (c ≤ 50)) then (bif (allN (fun i : Nat => inR (cs i) (vs i)) c 0) then (K (.exit 0) ⟨[], []⟩) else (K .ret ⟨[(4, .v (.b false))], []⟩)) else none)))]) (show AllP _ [([0, 1, 0, 1], sumAt (hHo cs vs c 0) (fun K => (bif (decide (c ≤ 50)) then (bif (allN (fun i : Nat => inR (cs i) (vs i)) c 0) then (K (.exit 0) ⟨[], []⟩) else (K .ret ⟨[(4, .v (.b false))], []⟩)) else none)))] from ⟨qZX fun K r hr => ?_, trivial⟩) p S hp
  ·obtain ⟨hg, hr⟩ := zG hr
   have hc := of_decide_eq_true hg
   exact (lpHo K cs vs c hc).trans hr
 ·refine (pxhold cs vs c).trans ?_
  unfold holdB
  rw [qZV, decide_eq_true hc]
  cases (allN (fun i : Nat => inR (cs i) (vs i)) c 0) <;> rfl
def hBr (cs : Nat → Cn) (vs : Nat → Iv) (c : Nat) (i : Int) : St := ⟨[(1, .v (.lf c (fB vs))), (8, .v (.lf c (fC cs))), (9, .v (.n .i64 (c : Int))), (10, .v (.n .i64 i))], []⟩
set_option maxRecDepth 100000 in
theorem rdBr (G : St → Option (Ret × Mem)) (K : Cont) (cs : Nat → Cn) (vs : Nat → Iv) (c : Nat) (i : Int) : stepR 60 (cxF T (OrL.k ([] : OrL)) 60 54 (ntmF T 54)) (ckF T (OrL.k ([] : OrL)) 60) (yQ T 54 [0, 1, 0, 1]) ((cxF T (OrL.k ([] : OrL)) 60 54 (ntmF T 54)).T.hint (cxF T (OrL.k ([] : OrL)) 60 54 (ntmF T 54)).me (jY (yQ T 54 [0, 1, 0, 1]))) K G (hBr cs vs c i) =
 (bif (decide (i < (c : Int))) then (bif (inB i c) then (bif (inB i c) then (bif (decide ((vs (i).toNat).hi < (cs (i).toNat).lo)) then (K .ret ⟨[(4, .v (.n .i64 i)), (5, .v (.b true))], []⟩)
 else (bif (decide ((cs (i).toNat).hi < (vs (i).toNat).lo)) then (K .ret ⟨[(4, .v (.n .i64 i)), (5, .v (.b true))], []⟩)
 else (G (hBr cs vs c (IntKind.i64.wrap (i + 1))))))
 else none)
 else none)
 else (K (.exit 0) ⟨[], []⟩)) := by kernel_rfl
theorem lpBr (K : Cont) (cs : Nat → Cn) (vs : Nat → Iv) (c : Nat) (hc : c ≤ 50) : LF 60 (cxF T (OrL.k ([] : OrL)) 60 54 (ntmF T 54)) (ckF T (OrL.k ([] : OrL)) 60) (yQ T 54 [0, 1, 0, 1]) ((cxF T (OrL.k ([] : OrL)) 60 54 (ntmF T 54)).T.hint (cxF T (OrL.k ([] : OrL)) 60 54 (ntmF T 54)).me (jY (yQ T 54 [0, 1, 0, 1]))) K 60 (hBr cs vs c 0) = bif (allN (fun i : Nat => !(outR (cs i) (vs i))) c 0) then (K (.exit 0) ⟨[], []⟩) else (K .ret ⟨[(4, .v (.n .i64 ((firstI (fun i : Nat => !(outR (cs i) (vs i))) c 0 : Nat) : Int))), (5, .v (.b true))], []⟩) := by
 refine (zZZ (c := c) (hBr cs vs c) (fun i : Nat => !(outR (cs i) (vs i))) (K (.exit 0) ⟨[], []⟩) (fun i : Nat => (K .ret ⟨[(4, .v (.n .i64 (i : Int))), (5, .v (.b true))], []⟩)) (fun G i hi => ?_) (fun G => ?_) c 0 60 (by omega) (by omega)).trans (runAll_first _ _ _ _ _)
 ·refine (rdBr G K cs vs c i).trans ?_
  rw [decide_eq_true (show (i : Int) < (c : Int) by omega), qWV (by omega), qYU (show i < c by omega), toN]
  unfold outR
  cases decide ((vs i).hi < (cs i).lo) <;> cases decide ((cs i).hi < (vs i).lo) <;> rfl
 ·refine (rdBr G K cs vs c c).trans ?_
  rw [decide_eq_false (show ¬ (c : Int) < (c : Int) by omega)]
  rfl
def nbrB (cs : Nat → Cn) (vs : Nat → Iv) (c : Nat) : Bool := (allN (fun i : Nat => !(outR (cs i) (vs i))) c 0)
def brkI (cs : Nat → Cn) (vs : Nat → Iv) (c : Nat) : Int := bif nbrB cs vs c then 0 else ((firstI (fun i : Nat => !(outR (cs i) (vs i))) c 0 : Nat) : Int)
set_option maxRecDepth 100000 in
theorem pxbrkn (cs : Nat → Cn) (vs : Nat → Iv) (c : Nat) : runKL T (OrL.k ([] : OrL)) (qQU [([0, 1, 0, 1], sumAt (hBr cs vs c 0) (fun K => (bif (decide (c ≤ 50)) then (bif (allN (fun i : Nat => !(outR (cs i) (vs i))) c 0) then (K (.exit 0) ⟨[], []⟩) else (K .ret ⟨[(4, .v (.n .i64 ((firstI (fun i : Nat => !(outR (cs i) (vs i))) c 0 : Nat) : Int))), (5, .v (.b true))], []⟩)) else none)))]) 60 54 [.lf c (fC cs), .lf c (fB vs)] =
 (bif (gSt (hBr cs vs c 0) (hBr cs vs c 0)) then (bif (decide (c ≤ 50)) then (bif (allN (fun i : Nat => !(outR (cs i) (vs i))) c 0) then some (.v (.t [.n .i64 0, .b false]), [])
 else some (.v (.t [.n .i64 ((firstI (fun i : Nat => !(outR (cs i) (vs i))) c 0 : Nat) : Int), .b true]), []))
 else none)
 else none) := by kernel_rfl
theorem snd_brkn (cs : Nat → Cn) (vs : Nat → Iv) (c : Nat) (hc : c ≤ 50) : SndA1 Tryz.prog 54 [.lf c (fC cs), .lf c (fB vs)] (.v (.t [.n .i64 (brkI cs vs c), .b (!nbrB cs vs c)])) := by
 refine uZ (N := 60) (LO := qQU [([0, 1, 0, 1], sumAt (hBr cs vs c 0) (fun K => (bif (decide (c ≤ 50)) then (bif (allN (fun i : Nat => !(outR (cs i) (vs i))) c 0) then (K (.exit 0) ⟨[], []⟩) else (K .ret ⟨[(4, .v (.n .i64 ((firstI (fun i : Nat => !(outR (cs i) (vs i))) c 0 : Nat) : Int))), (5, .v (.b true))], []⟩)) else none)))]) tabOk mixed (OrL.ok (l := ([] : OrL)) trivial) (fun p S hp => ?_) ?_
 ·refine qQK (L := yQ T 54) (l := [([0, 1, 0, 1], sumAt (hBr cs vs c 0) (fun K => (bif (decide (c ≤ 50)) then (bif (allN (fun i : Nat => !(outR (cs i) (vs i))) c 0) then (K (.exit 0) ⟨[], []⟩) else (K .ret ⟨[(4, .v (.n .i64 ((firstI (fun i : Nat => !(outR (cs i) (vs i))) c 0 : Nat) : Int))), (5, .v (.b true))], []⟩)) else none)))]) (show AllP _ [([0, 1, 0, 1], sumAt (hBr cs vs c 0) (fun K => (bif (decide (c ≤ 50)) then (bif (allN (fun i : Nat => !(outR (cs i) (vs i))) c 0) then (K (.exit 0) ⟨[], []⟩) else (K .ret ⟨[(4, .v (.n .i64 ((firstI (fun i : Nat => !(outR (cs i) (vs i))) c 0 : Nat) : Int))), (5, .v (.b true))], []⟩)) else none)))] from ⟨qZX fun K r hr => ?_, trivial⟩) p S hp
  ·obtain ⟨hg, hr⟩ := zG hr
   have hc := of_decide_eq_true hg
   exact (lpBr K cs vs c hc).trans hr
 ·refine (pxbrkn cs vs c).trans ?_
  unfold brkI nbrB
  rw [qZV, decide_eq_true hc]
  cases (allN (fun i : Nat => !(outR (cs i) (vs i))) c 0) <;> rfl
theorem snd_PH (js : Nat → J) (ms : Nat → Ms) (bx : Nat → Iv) (n m k : Nat) (cs : Nat → Cn) (c : Nat) : SndA1 Tryz.prog 24 [.a [.lf n (fJ js), .lf m (fM ms)], .lf c (fC cs), .lf k (fB bx)] (.v (.b ((cErr js ms n m cs c) && (pIn js ms bx n m k && holdB cs (vI js bx n cs) c)))) := by
 refine yV (N := 60) tabOk mixed (OrL.ok (l := [(16, qXH [.a [.lf n (fJ js), .lf m (fM ms)], .lf c (fC cs)] (.v (.b (cErr js ms n m cs c)))), (52, qXH [.a [.lf n (fJ js), .lf m (fM ms)], .lf k (fB bx)] (.v (.b (pIn js ms bx n m k)))), (53, zZQ [.a [.lf n (fJ js), .lf m (fM ms)], .lf c (fC cs), .lf k (fB bx)] ((cErr js ms n m cs c) && pIn js ms bx n m k) (.v (.lf c (fB (vI js bx n cs))))), (55, zZQ [.lf c (fC cs), .lf c (fB (vI js bx n cs))] (decide (c ≤ 50)) (.v (.b (holdB cs (vI js bx n cs) c))))]) ⟨qVJ (snd_Mc js ms n m cs c), qVJ (snd_pIn js ms bx n m k), zYY (fun h => by rw [Bool.and_eq_true] at h; exact snd_valsF js ms bx n m k cs c h.1 h.2), zYY (fun h => snd_hold cs (vI js bx n cs) c (of_decide_eq_true h)), trivial⟩) ?_
 refine (by kernel_rfl : _ = bif (g1 [.a [.lf n (fJ js), .lf m (fM ms)], .lf c (fC cs)]) then (bif (cErr js ms n m cs c) then (bif (g1 [.a [.lf n (fJ js), .lf m (fM ms)], .lf k (fB bx)]) then (bif (pIn js ms bx n m k) then (bif (g1 [.a [.lf n (fJ js), .lf m (fM ms)], .lf c (fC cs), .lf k (fB bx)] && ((cErr js ms n m cs c) && pIn js ms bx n m k)) then (bif (g1 [.lf c (fC cs), .lf c (fB (vI js bx n cs))] && decide (c ≤ 50)) then (bif (holdB cs (vI js bx n cs) c) then some (.v (.b true), [])
 else some (.v (.b false), []))
 else none)
 else none)
 else some (.v (.b false), []))
 else none)
 else some (.v (.b false), []))
 else none).trans ?_
 simp only [zYZ]
 cases hc : (cErr js ms n m cs c) with
 | false => rfl
 | true =>
  cases hp : pIn js ms bx n m k with
  | false => rfl
  | true =>
   have h8 := (qVQ hc).2.1
   simp only [Bool.and_self, decide_eq_true (show c ≤ 50 by omega), cond_true, Bool.true_and]
   try (cases holdB cs (vI js bx n cs) c <;> rfl)
   try (cases nbrB cs (vI js bx n cs) c <;> rfl)
theorem snd_PB (js : Nat → J) (ms : Nat → Ms) (bx : Nat → Iv) (n m k : Nat) (cs : Nat → Cn) (c : Nat) : SndA1 Tryz.prog 23 [.a [.lf n (fJ js), .lf m (fM ms)], .lf c (fC cs), .lf k (fB bx)] (.v (.t [.n .i64 (bif (cErr js ms n m cs c) && pIn js ms bx n m k then brkI cs (vI js bx n cs) c else 0), .b ((cErr js ms n m cs c) && pIn js ms bx n m k && !nbrB cs (vI js bx n cs) c)])) := by
 refine yV (N := 60) tabOk mixed (OrL.ok (l := [(16, qXH [.a [.lf n (fJ js), .lf m (fM ms)], .lf c (fC cs)] (.v (.b (cErr js ms n m cs c)))), (52, qXH [.a [.lf n (fJ js), .lf m (fM ms)], .lf k (fB bx)] (.v (.b (pIn js ms bx n m k)))), (53, zZQ [.a [.lf n (fJ js), .lf m (fM ms)], .lf c (fC cs), .lf k (fB bx)] ((cErr js ms n m cs c) && pIn js ms bx n m k) (.v (.lf c (fB (vI js bx n cs))))), (54, zZQ [.lf c (fC cs), .lf c (fB (vI js bx n cs))] (decide (c ≤ 50)) (.v (.t [.n .i64 (brkI cs (vI js bx n cs) c), .b (!nbrB cs (vI js bx n cs) c)])))]) ⟨qVJ (snd_Mc js ms n m cs c), qVJ (snd_pIn js ms bx n m k), zYY (fun h => by rw [Bool.and_eq_true] at h; exact snd_valsF js ms bx n m k cs c h.1 h.2), zYY (fun h => snd_brkn cs (vI js bx n cs) c (of_decide_eq_true h)), trivial⟩) ?_
 refine (by kernel_rfl : _ = bif (g1 [.a [.lf n (fJ js), .lf m (fM ms)], .lf c (fC cs)]) then (bif (cErr js ms n m cs c) then (bif (g1 [.a [.lf n (fJ js), .lf m (fM ms)], .lf k (fB bx)]) then (bif (pIn js ms bx n m k) then (bif (g1 [.a [.lf n (fJ js), .lf m (fM ms)], .lf c (fC cs), .lf k (fB bx)] && ((cErr js ms n m cs c) && pIn js ms bx n m k)) then (bif (g1 [.lf c (fC cs), .lf c (fB (vI js bx n cs))] && decide (c ≤ 50)) then (bif (!nbrB cs (vI js bx n cs) c) then some (.v (.t [.n .i64 (brkI cs (vI js bx n cs) c), .b true]), [])
 else some (.v (.t [.n .i64 (brkI cs (vI js bx n cs) c), .b false]), []))
 else none)
 else none)
 else some (.v (.t [.n .i64 0, .b false]), []))
 else none)
 else some (.v (.t [.n .i64 0, .b false]), []))
 else none).trans ?_
 simp only [zYZ]
 cases hc : (cErr js ms n m cs c) with
 | false => rfl
 | true =>
  cases hp : pIn js ms bx n m k with
  | false => rfl
  | true =>
   have h8 := (qVQ hc).2.1
   simp only [Bool.and_self, decide_eq_true (show c ≤ 50 by omega), cond_true, Bool.true_and]
   try (cases holdB cs (vI js bx n cs) c <;> rfl)
   try (cases nbrB cs (vI js bx n cs) c <;> rfl)
def unC (ps : List PV) : Cn := match ps with
 | [.n _ a, .n _ b, .n _ c, .n _ d, .n _ e, .n _ f, .n _ g, .n _ h, .n _ i, .n _ j] => ⟨a, b, ⟨c, d, e⟩, ⟨f, g, h⟩, i, j⟩
 | _ => ⟨0, 0, ⟨0, 0, 0⟩, ⟨0, 0, 0⟩, 0, 0⟩
noncomputable def resV (js : Nat → J) (ms : Nat → Ms) (bx : Nat → Iv) (n m k : Nat) (c : Cn) : PV := .t [.a [.n .i64 (vLo js ms bx n m k c), .n .i64 (vHi js ms bx n m k c)], .b (vOk js ms bx n m k c)]
noncomputable def zYX (js : Nat → J) (ms : Nat → Ms) (bx : Nat → Iv) (n m k : Nat) : List PV → Option (Bool × Ret) := fun ps => match ps with
 | [r, .a c, b] => some (gEq (.t ps) (.t [.a [.lf n (fJ js), .lf m (fM ms)], .a (cp (unC c)), .lf k (fB bx)]) && decide (k ≤ 50), .v (resV js ms bx n m k (unC c)))
 | _ => none
theorem ok_rv (js : Nat → J) (ms : Nat → Ms) (bx : Nat → Iv) (n m k : Nat) : OneOk Tryz.prog 48 (zYX js ms bx n m k) := by
 intro ps q hh
 unfold zYX at hh
 split at hh
 ·simp only [Option.some.injEq, Prod.mk.injEq, Bool.and_eq_true] at hh
  obtain ⟨⟨hg, hb⟩, rfl⟩ := hh
  have := zQZ hg
  simp only [PV.t.injEq] at this
  rw [this]
  exact snd_RV js ms bx n m k _ (of_decide_eq_true hb)
 ·cases hh
def hRh (js : Nat → J) (ms : Nat → Ms) (bx : Nat → Iv) (n m k : Nat) (cs : Nat → Cn) (c : Nat) (i : Int) : St := ⟨[(1, .v (.lf c (fC cs))), (2, .v (.lf k (fB bx))), (3, .p 3 0), (7, .v (.n .i64 i))], [(3, .blk [.v (.lf n (fJ js)), .v (.lf m (fM ms))])]⟩
set_option maxRecDepth 100000 in
theorem rdRh (G : St → Option (Ret × Mem)) (K : Cont) (js : Nat → J) (ms : Nat → Ms) (bx : Nat → Iv) (n m k : Nat) (cs : Nat → Cn) (c : Nat) (i : Int) : stepR 60 (cxF T (OrL.k [(17, qXH [.a [.lf n (fJ js), .lf m (fM ms)], .lf c (fC cs)] (.v (.b (cErr js ms n m cs c)))), (86, zZQ [.a [.lf n (fJ js), .lf m (fM ms)], .lf k (fB bx)] (decide (k ≤ 50)) (.v (.b (rIn js ms bx n m k)))), (48, zYX js ms bx n m k)]) 60 50 (ntmF T 50)) (ckF T (OrL.k [(17, qXH [.a [.lf n (fJ js), .lf m (fM ms)], .lf c (fC cs)] (.v (.b (cErr js ms n m cs c)))), (86, zZQ [.a [.lf n (fJ js), .lf m (fM ms)], .lf k (fB bx)] (decide (k ≤ 50)) (.v (.b (rIn js ms bx n m k)))), (48, zYX js ms bx n m k)]) 60) (yQ T 50 [0, 1, 0, 1, 1]) ((cxF T (OrL.k [(17, qXH [.a [.lf n (fJ js), .lf m (fM ms)], .lf c (fC cs)] (.v (.b (cErr js ms n m cs c)))), (86, zZQ [.a [.lf n (fJ js), .lf m (fM ms)], .lf k (fB bx)] (decide (k ≤ 50)) (.v (.b (rIn js ms bx n m k)))), (48, zYX js ms bx n m k)]) 60 50 (ntmF T 50)).T.hint (cxF T (OrL.k [(17, qXH [.a [.lf n (fJ js), .lf m (fM ms)], .lf c (fC cs)] (.v (.b (cErr js ms n m cs c)))), (86, zZQ [.a [.lf n (fJ js), .lf m (fM ms)], .lf k (fB bx)] (decide (k ≤ 50)) (.v (.b (rIn js ms bx n m k)))), (48, zYX js ms bx n m k)]) 60 50 (ntmF T 50)).me (jY (yQ T 50 [0, 1, 0, 1, 1]))) K G (hRh js ms bx n m k cs c i) =
 (bif (decide (i < (c : Int))) then (bif (inB i c) then (bif (g1 [.a [.lf n (fJ js), .lf m (fM ms)], .a [.n .i64 (cs (i).toNat).kind, .n .i64 (cs (i).toNat).link, .n .i64 (cs (i).toNat).p.x, .n .i64 (cs (i).toNat).p.y, .n .i64 (cs (i).toNat).p.z, .n .i64 (cs (i).toNat).n.x, .n .i64 (cs (i).toNat).n.y, .n .i64 (cs (i).toNat).n.z, .n .i64 (cs (i).toNat).lo, .n .i64 (cs (i).toNat).hi], .lf k (fB bx)] && decide (k ≤ 50)) then (bif (vOk js ms bx n m k (cs (i).toNat)) then (bif (inB i c) then (bif (decide ((vLo js ms bx n m k (cs (i).toNat)) < (cs (i).toNat).lo)) then (K .ret ⟨[(6, .v (.b false))], []⟩)
 else (bif (inB i c) then (bif (decide ((cs (i).toNat).hi < (vHi js ms bx n m k (cs (i).toNat)))) then (K .ret ⟨[(6, .v (.b false))], []⟩)
 else (G (hRh js ms bx n m k cs c (IntKind.i64.wrap (i + 1)))))
 else none))
 else none)
 else (bif (inB i c) then (bif (decide ((vLo js ms bx n m k (cs (i).toNat)) < (cs (i).toNat).lo)) then (K .ret ⟨[(6, .v (.b false))], []⟩)
 else (bif (inB i c) then (bif (decide ((cs (i).toNat).hi < (vHi js ms bx n m k (cs (i).toNat)))) then (K .ret ⟨[(6, .v (.b false))], []⟩)
 else (G (hRh js ms bx n m k cs c (IntKind.i64.wrap (i + 1)))))
 else none))
 else none))
 else none)
 else none)
 else (K (.exit 0) ⟨[], []⟩)) := by kernel_rfl
theorem lpRh (K : Cont) (js : Nat → J) (ms : Nat → Ms) (bx : Nat → Iv) (n m k : Nat) (cs : Nat → Cn) (c : Nat) (hc : c ≤ 50) (hk : k ≤ 50) : LF 60 (cxF T (OrL.k [(17, qXH [.a [.lf n (fJ js), .lf m (fM ms)], .lf c (fC cs)] (.v (.b (cErr js ms n m cs c)))), (86, zZQ [.a [.lf n (fJ js), .lf m (fM ms)], .lf k (fB bx)] (decide (k ≤ 50)) (.v (.b (rIn js ms bx n m k)))), (48, zYX js ms bx n m k)]) 60 50 (ntmF T 50)) (ckF T (OrL.k [(17, qXH [.a [.lf n (fJ js), .lf m (fM ms)], .lf c (fC cs)] (.v (.b (cErr js ms n m cs c)))), (86, zZQ [.a [.lf n (fJ js), .lf m (fM ms)], .lf k (fB bx)] (decide (k ≤ 50)) (.v (.b (rIn js ms bx n m k)))), (48, zYX js ms bx n m k)]) 60) (yQ T 50 [0, 1, 0, 1, 1]) ((cxF T (OrL.k [(17, qXH [.a [.lf n (fJ js), .lf m (fM ms)], .lf c (fC cs)] (.v (.b (cErr js ms n m cs c)))), (86, zZQ [.a [.lf n (fJ js), .lf m (fM ms)], .lf k (fB bx)] (decide (k ≤ 50)) (.v (.b (rIn js ms bx n m k)))), (48, zYX js ms bx n m k)]) 60 50 (ntmF T 50)).T.hint (cxF T (OrL.k [(17, qXH [.a [.lf n (fJ js), .lf m (fM ms)], .lf c (fC cs)] (.v (.b (cErr js ms n m cs c)))), (86, zZQ [.a [.lf n (fJ js), .lf m (fM ms)], .lf k (fB bx)] (decide (k ≤ 50)) (.v (.b (rIn js ms bx n m k)))), (48, zYX js ms bx n m k)]) 60 50 (ntmF T 50)).me (jY (yQ T 50 [0, 1, 0, 1, 1]))) K 60 (hRh js ms bx n m k cs c 0) = bif (allN (fun i : Nat => inR (cs i) ⟨vLo js ms bx n m k (cs i), vHi js ms bx n m k (cs i)⟩) c 0) then (K (.exit 0) ⟨[], []⟩) else (K .ret ⟨[(6, .v (.b false))], []⟩) := by
 refine (zZZ (c := c) (hRh js ms bx n m k cs c) (fun i : Nat => inR (cs i) ⟨vLo js ms bx n m k (cs i), vHi js ms bx n m k (cs i)⟩) (K (.exit 0) ⟨[], []⟩) (fun i : Nat => (K .ret ⟨[(6, .v (.b false))], []⟩)) (fun G i hi => ?_) (fun G => ?_) c 0 60 (by omega) (by omega)).trans (runAll_all _ _ _ _ _)
 ·refine (rdRh G K js ms bx n m k cs c i).trans ?_
  simp only [decide_eq_true (show (i : Int) < (c : Int) by omega), qWV (show i < 1000000 by omega), qYU (show i < c by omega), toN, zYZ, decide_eq_true hk, Bool.and_self, cond_true]
  unfold inR
  cases vOk js ms bx n m k (cs i) <;> cases decide (vLo js ms bx n m k (cs i) < (cs i).lo) <;> cases decide ((cs i).hi < vHi js ms bx n m k (cs i)) <;> rfl
 ·refine (rdRh G K js ms bx n m k cs c c).trans ?_
  rw [decide_eq_false (show ¬ (c : Int) < (c : Int) by omega)]
  rfl
noncomputable def rHoldB (js : Nat → J) (ms : Nat → Ms) (bx : Nat → Iv) (n m k : Nat) (cs : Nat → Cn) (c : Nat) : Bool := (allN (fun i : Nat => inR (cs i) ⟨vLo js ms bx n m k (cs i), vHi js ms bx n m k (cs i)⟩) c 0)
set_option maxRecDepth 100000 in
theorem pxRHo (js : Nat → J) (ms : Nat → Ms) (bx : Nat → Iv) (n m k : Nat) (cs : Nat → Cn) (c : Nat) : runKL T (OrL.k [(17, qXH [.a [.lf n (fJ js), .lf m (fM ms)], .lf c (fC cs)] (.v (.b (cErr js ms n m cs c)))), (86, zZQ [.a [.lf n (fJ js), .lf m (fM ms)], .lf k (fB bx)] (decide (k ≤ 50)) (.v (.b (rIn js ms bx n m k)))), (48, zYX js ms bx n m k)]) (qQU [([0, 1, 0, 1, 1], sumAt (hRh js ms bx n m k cs c 0) (fun K => (bif (decide (c ≤ 50) && decide (k ≤ 50)) then (bif (allN (fun i : Nat => inR (cs i) ⟨vLo js ms bx n m k (cs i), vHi js ms bx n m k (cs i)⟩) c 0) then (K (.exit 0) ⟨[], []⟩) else (K .ret ⟨[(6, .v (.b false))], []⟩)) else none)))]) 60 50 [.a [.lf n (fJ js), .lf m (fM ms)], .lf c (fC cs), .lf k (fB bx)] =
 (bif (g1 [.a [.lf n (fJ js), .lf m (fM ms)], .lf c (fC cs)]) then (bif (cErr js ms n m cs c) then (bif (g1 [.a [.lf n (fJ js), .lf m (fM ms)], .lf k (fB bx)] && decide (k ≤ 50)) then (bif (rIn js ms bx n m k) then (bif (gSt (hRh js ms bx n m k cs c 0) (hRh js ms bx n m k cs c 0)) then (bif (decide (c ≤ 50) && decide (k ≤ 50)) then (bif (allN (fun i : Nat => inR (cs i) ⟨vLo js ms bx n m k (cs i), vHi js ms bx n m k (cs i)⟩) c 0) then some (.v (.b true), [])
 else some (.v (.b false), []))
 else none)
 else none)
 else some (.v (.b false), []))
 else none)
 else some (.v (.b false), []))
 else none) := by kernel_rfl
theorem snd_RHo (js : Nat → J) (ms : Nat → Ms) (bx : Nat → Iv) (n m k : Nat) (cs : Nat → Cn) (c : Nat) (hk : k ≤ 50) : SndA1 Tryz.prog 50 [.a [.lf n (fJ js), .lf m (fM ms)], .lf c (fC cs), .lf k (fB bx)] (.v (.b ((cErr js ms n m cs c) && (rIn js ms bx n m k && rHoldB js ms bx n m k cs c)))) := by
 refine uZ (N := 60) (LO := qQU [([0, 1, 0, 1, 1], sumAt (hRh js ms bx n m k cs c 0) (fun K => (bif (decide (c ≤ 50) && decide (k ≤ 50)) then (bif (allN (fun i : Nat => inR (cs i) ⟨vLo js ms bx n m k (cs i), vHi js ms bx n m k (cs i)⟩) c 0) then (K (.exit 0) ⟨[], []⟩) else (K .ret ⟨[(6, .v (.b false))], []⟩)) else none)))]) tabOk mixed (OrL.ok (l := [(17, qXH [.a [.lf n (fJ js), .lf m (fM ms)], .lf c (fC cs)] (.v (.b (cErr js ms n m cs c)))), (86, zZQ [.a [.lf n (fJ js), .lf m (fM ms)], .lf k (fB bx)] (decide (k ≤ 50)) (.v (.b (rIn js ms bx n m k)))), (48, zYX js ms bx n m k)]) ⟨qVJ (snd_Rc js ms n m cs c), zYY (fun h => snd_rIn js ms bx n m k (of_decide_eq_true h)), ok_rv js ms bx n m k, trivial⟩) (fun p S hp => ?_) ?_
 ·refine qQK (L := yQ T 50) (l := [([0, 1, 0, 1, 1], sumAt (hRh js ms bx n m k cs c 0) (fun K => (bif (decide (c ≤ 50) && decide (k ≤ 50)) then (bif (allN (fun i : Nat => inR (cs i) ⟨vLo js ms bx n m k (cs i), vHi js ms bx n m k (cs i)⟩) c 0) then (K (.exit 0) ⟨[], []⟩) else (K .ret ⟨[(6, .v (.b false))], []⟩)) else none)))]) (show AllP _ [([0, 1, 0, 1, 1], sumAt (hRh js ms bx n m k cs c 0) (fun K => (bif (decide (c ≤ 50) && decide (k ≤ 50)) then (bif (allN (fun i : Nat => inR (cs i) ⟨vLo js ms bx n m k (cs i), vHi js ms bx n m k (cs i)⟩) c 0) then (K (.exit 0) ⟨[], []⟩) else (K .ret ⟨[(6, .v (.b false))], []⟩)) else none)))] from ⟨qZX fun K r hr => ?_, trivial⟩) p S hp
  ·obtain ⟨hg, hr⟩ := zG hr
   rw [Bool.and_eq_true] at hg
   have hc := of_decide_eq_true hg.1
   have hk := of_decide_eq_true hg.2
   exact (lpRh K js ms bx n m k cs c hc hk).trans hr
 ·refine (pxRHo js ms bx n m k cs c).trans ?_
  unfold rHoldB
  simp only [qZV, zYZ, decide_eq_true hk, Bool.true_and]
  cases hc : (cErr js ms n m cs c) with
  | false => rfl
  | true =>
   have h8 := (qVQ hc).2.1
   simp only [decide_eq_true (show c ≤ 50 by omega), Bool.true_and, Bool.and_true]
   cases rIn js ms bx n m k <;> cases (allN (fun i : Nat => inR (cs i) ⟨vLo js ms bx n m k (cs i), vHi js ms bx n m k (cs i)⟩) c 0) <;> rfl
noncomputable def brB (js : Nat → J) (ms : Nat → Ms) (bx : Nat → Iv) (n m k : Nat) (c : Cn) : Bool := vOk js ms bx n m k c && outR c ⟨vLo js ms bx n m k c, vHi js ms bx n m k c⟩
theorem snd_brs (js : Nat → J) (ms : Nat → Ms) (bx : Nat → Iv) (n m k : Nat) (c : Cn) (hk : k ≤ 50) : SndA1 Tryz.prog 88 [.a [.lf n (fJ js), .lf m (fM ms)], .a (cp c), .lf k (fB bx)] (.v (.b (brB js ms bx n m k c))) := by
 refine yV (N := 60) tabOk mixed (OrL.ok (l := [(48, zYX js ms bx n m k)]) ⟨ok_rv js ms bx n m k, trivial⟩) ?_
 refine (by kernel_rfl : _ = bif (g1 [.a [.lf n (fJ js), .lf m (fM ms)], .a (cp c), .lf k (fB bx)] && decide (k ≤ 50)) then (bif (vOk js ms bx n m k c) then (bif (decide ((vHi js ms bx n m k c) < c.lo)) then some (.v (.b true), [])
 else bif (decide (c.hi < (vLo js ms bx n m k c))) then some (.v (.b true), [])
 else some (.v (.b false), []))
 else some (.v (.b false), []))
 else none).trans ?_
 unfold brB outR
 simp only [zYZ, decide_eq_true hk, Bool.and_self, cond_true]
 cases vOk js ms bx n m k c <;> cases decide (vHi js ms bx n m k c < c.lo) <;> cases decide (c.hi < vLo js ms bx n m k c) <;> rfl
noncomputable def zYV (js : Nat → J) (ms : Nat → Ms) (bx : Nat → Iv) (n m k : Nat) : List PV → Option (Bool × Ret) := fun ps => match ps with
 | [r, .a c, b] => some (gEq (.t ps) (.t [.a [.lf n (fJ js), .lf m (fM ms)], .a (cp (unC c)), .lf k (fB bx)]) && decide (k ≤ 50), .v (.b (brB js ms bx n m k (unC c))))
 | _ => none
theorem ok_bs (js : Nat → J) (ms : Nat → Ms) (bx : Nat → Iv) (n m k : Nat) : OneOk Tryz.prog 88 (zYV js ms bx n m k) := by
 intro ps q hh
 unfold zYV at hh
 split at hh
 ·simp only [Option.some.injEq, Prod.mk.injEq, Bool.and_eq_true] at hh
  obtain ⟨⟨hg, hb⟩, rfl⟩ := hh
  have := zQZ hg
  simp only [PV.t.injEq] at this
  rw [this]
  exact snd_brs js ms bx n m k _ (of_decide_eq_true hb)
 ·cases hh
def hRb (js : Nat → J) (ms : Nat → Ms) (bx : Nat → Iv) (n m k : Nat) (cs : Nat → Cn) (c : Nat) (i : Int) : St := ⟨[(1, .v (.lf c (fC cs))), (2, .v (.lf k (fB bx))), (3, .p 3 0), (8, .v (.n .i64 i))], [(3, .blk [.v (.lf n (fJ js)), .v (.lf m (fM ms))])]⟩
set_option maxRecDepth 100000 in
theorem rdRb (G : St → Option (Ret × Mem)) (K : Cont) (js : Nat → J) (ms : Nat → Ms) (bx : Nat → Iv) (n m k : Nat) (cs : Nat → Cn) (c : Nat) (i : Int) : stepR 60 (cxF T (OrL.k [(17, qXH [.a [.lf n (fJ js), .lf m (fM ms)], .lf c (fC cs)] (.v (.b (cErr js ms n m cs c)))), (88, zYV js ms bx n m k)]) 60 49 (ntmF T 49)) (ckF T (OrL.k [(17, qXH [.a [.lf n (fJ js), .lf m (fM ms)], .lf c (fC cs)] (.v (.b (cErr js ms n m cs c)))), (88, zYV js ms bx n m k)]) 60) (yQ T 49 [0, 1, 0, 1, 1]) ((cxF T (OrL.k [(17, qXH [.a [.lf n (fJ js), .lf m (fM ms)], .lf c (fC cs)] (.v (.b (cErr js ms n m cs c)))), (88, zYV js ms bx n m k)]) 60 49 (ntmF T 49)).T.hint (cxF T (OrL.k [(17, qXH [.a [.lf n (fJ js), .lf m (fM ms)], .lf c (fC cs)] (.v (.b (cErr js ms n m cs c)))), (88, zYV js ms bx n m k)]) 60 49 (ntmF T 49)).me (jY (yQ T 49 [0, 1, 0, 1, 1]))) K G (hRb js ms bx n m k cs c i) =
 (bif (decide (i < (c : Int))) then (bif (inB i c) then (bif (g1 [.a [.lf n (fJ js), .lf m (fM ms)], .a [.n .i64 (cs (i).toNat).kind, .n .i64 (cs (i).toNat).link, .n .i64 (cs (i).toNat).p.x, .n .i64 (cs (i).toNat).p.y, .n .i64 (cs (i).toNat).p.z, .n .i64 (cs (i).toNat).n.x, .n .i64 (cs (i).toNat).n.y, .n .i64 (cs (i).toNat).n.z, .n .i64 (cs (i).toNat).lo, .n .i64 (cs (i).toNat).hi], .lf k (fB bx)] && decide (k ≤ 50)) then (bif (brB js ms bx n m k (cs (i).toNat)) then (K .ret ⟨[(6, .v (.n .i64 i)), (7, .v (.b true))], []⟩)
 else (G (hRb js ms bx n m k cs c (IntKind.i64.wrap (i + 1)))))
 else none)
 else none)
 else (K (.exit 0) ⟨[], []⟩)) := by kernel_rfl
theorem lpRb (K : Cont) (js : Nat → J) (ms : Nat → Ms) (bx : Nat → Iv) (n m k : Nat) (cs : Nat → Cn) (c : Nat) (hc : c ≤ 50) (hk : k ≤ 50) : LF 60 (cxF T (OrL.k [(17, qXH [.a [.lf n (fJ js), .lf m (fM ms)], .lf c (fC cs)] (.v (.b (cErr js ms n m cs c)))), (88, zYV js ms bx n m k)]) 60 49 (ntmF T 49)) (ckF T (OrL.k [(17, qXH [.a [.lf n (fJ js), .lf m (fM ms)], .lf c (fC cs)] (.v (.b (cErr js ms n m cs c)))), (88, zYV js ms bx n m k)]) 60) (yQ T 49 [0, 1, 0, 1, 1]) ((cxF T (OrL.k [(17, qXH [.a [.lf n (fJ js), .lf m (fM ms)], .lf c (fC cs)] (.v (.b (cErr js ms n m cs c)))), (88, zYV js ms bx n m k)]) 60 49 (ntmF T 49)).T.hint (cxF T (OrL.k [(17, qXH [.a [.lf n (fJ js), .lf m (fM ms)], .lf c (fC cs)] (.v (.b (cErr js ms n m cs c)))), (88, zYV js ms bx n m k)]) 60 49 (ntmF T 49)).me (jY (yQ T 49 [0, 1, 0, 1, 1]))) K 60 (hRb js ms bx n m k cs c 0) = bif (allN (fun i : Nat => !(brB js ms bx n m k (cs i))) c 0) then (K (.exit 0) ⟨[], []⟩) else (K .ret ⟨[(6, .v (.n .i64 ((firstI (fun i : Nat => !(brB js ms bx n m k (cs i))) c 0 : Nat) : Int))), (7, .v (.b true))], []⟩) := by
 refine (zZZ (c := c) (hRb js ms bx n m k cs c) (fun i : Nat => !(brB js ms bx n m k (cs i))) (K (.exit 0) ⟨[], []⟩) (fun i : Nat => (K .ret ⟨[(6, .v (.n .i64 (i : Int))), (7, .v (.b true))], []⟩)) (fun G i hi => ?_) (fun G => ?_) c 0 60 (by omega) (by omega)).trans (runAll_first _ _ _ _ _)
 ·refine (rdRb G K js ms bx n m k cs c i).trans ?_
  simp only [decide_eq_true (show (i : Int) < (c : Int) by omega), qWV (show i < 1000000 by omega), qYU (show i < c by omega), toN, zYZ, decide_eq_true hk, Bool.and_self, cond_true]
  cases brB js ms bx n m k (cs i) <;> rfl
 ·refine (rdRb G K js ms bx n m k cs c c).trans ?_
  rw [decide_eq_false (show ¬ (c : Int) < (c : Int) by omega)]
  rfl
noncomputable def rNbr (js : Nat → J) (ms : Nat → Ms) (bx : Nat → Iv) (n m k : Nat) (cs : Nat → Cn) (c : Nat) : Bool := (allN (fun i : Nat => !(brB js ms bx n m k (cs i))) c 0)
noncomputable def rBrI (js : Nat → J) (ms : Nat → Ms) (bx : Nat → Iv) (n m k : Nat) (cs : Nat → Cn) (c : Nat) : Int := bif rNbr js ms bx n m k cs c then 0 else ((firstI (fun i : Nat => !(brB js ms bx n m k (cs i))) c 0 : Nat) : Int)
set_option maxRecDepth 100000 in
theorem pxRBr (js : Nat → J) (ms : Nat → Ms) (bx : Nat → Iv) (n m k : Nat) (cs : Nat → Cn) (c : Nat) : runKL T (OrL.k [(17, qXH [.a [.lf n (fJ js), .lf m (fM ms)], .lf c (fC cs)] (.v (.b (cErr js ms n m cs c)))), (88, zYV js ms bx n m k)]) (qQU [([0, 1, 0, 1, 1], sumAt (hRb js ms bx n m k cs c 0) (fun K => (bif (decide (c ≤ 50) && decide (k ≤ 50)) then (bif (allN (fun i : Nat => !(brB js ms bx n m k (cs i))) c 0) then (K (.exit 0) ⟨[], []⟩) else (K .ret ⟨[(6, .v (.n .i64 ((firstI (fun i : Nat => !(brB js ms bx n m k (cs i))) c 0 : Nat) : Int))), (7, .v (.b true))], []⟩)) else none)))]) 60 49 [.a [.lf n (fJ js), .lf m (fM ms)], .lf c (fC cs), .lf k (fB bx)] =
 (bif (g1 [.a [.lf n (fJ js), .lf m (fM ms)], .lf c (fC cs)]) then (bif (cErr js ms n m cs c) then (bif (gSt (hRb js ms bx n m k cs c 0) (hRb js ms bx n m k cs c 0)) then (bif (decide (c ≤ 50) && decide (k ≤ 50)) then (bif (allN (fun i : Nat => !(brB js ms bx n m k (cs i))) c 0) then some (.v (.t [.n .i64 0, .b false]), [])
 else some (.v (.t [.n .i64 ((firstI (fun i : Nat => !(brB js ms bx n m k (cs i))) c 0 : Nat) : Int), .b true]), []))
 else none)
 else none)
 else some (.v (.t [.n .i64 0, .b false]), []))
 else none) := by kernel_rfl
theorem snd_RBr (js : Nat → J) (ms : Nat → Ms) (bx : Nat → Iv) (n m k : Nat) (cs : Nat → Cn) (c : Nat) (hk : k ≤ 50) : SndA1 Tryz.prog 49 [.a [.lf n (fJ js), .lf m (fM ms)], .lf c (fC cs), .lf k (fB bx)] (.v (.t [.n .i64 (bif (cErr js ms n m cs c) then rBrI js ms bx n m k cs c else 0), .b ((cErr js ms n m cs c) && !rNbr js ms bx n m k cs c)])) := by
 refine uZ (N := 60) (LO := qQU [([0, 1, 0, 1, 1], sumAt (hRb js ms bx n m k cs c 0) (fun K => (bif (decide (c ≤ 50) && decide (k ≤ 50)) then (bif (allN (fun i : Nat => !(brB js ms bx n m k (cs i))) c 0) then (K (.exit 0) ⟨[], []⟩) else (K .ret ⟨[(6, .v (.n .i64 ((firstI (fun i : Nat => !(brB js ms bx n m k (cs i))) c 0 : Nat) : Int))), (7, .v (.b true))], []⟩)) else none)))]) tabOk mixed (OrL.ok (l := [(17, qXH [.a [.lf n (fJ js), .lf m (fM ms)], .lf c (fC cs)] (.v (.b (cErr js ms n m cs c)))), (88, zYV js ms bx n m k)]) ⟨qVJ (snd_Rc js ms n m cs c), ok_bs js ms bx n m k, trivial⟩) (fun p S hp => ?_) ?_
 ·refine qQK (L := yQ T 49) (l := [([0, 1, 0, 1, 1], sumAt (hRb js ms bx n m k cs c 0) (fun K => (bif (decide (c ≤ 50) && decide (k ≤ 50)) then (bif (allN (fun i : Nat => !(brB js ms bx n m k (cs i))) c 0) then (K (.exit 0) ⟨[], []⟩) else (K .ret ⟨[(6, .v (.n .i64 ((firstI (fun i : Nat => !(brB js ms bx n m k (cs i))) c 0 : Nat) : Int))), (7, .v (.b true))], []⟩)) else none)))]) (show AllP _ [([0, 1, 0, 1, 1], sumAt (hRb js ms bx n m k cs c 0) (fun K => (bif (decide (c ≤ 50) && decide (k ≤ 50)) then (bif (allN (fun i : Nat => !(brB js ms bx n m k (cs i))) c 0) then (K (.exit 0) ⟨[], []⟩) else (K .ret ⟨[(6, .v (.n .i64 ((firstI (fun i : Nat => !(brB js ms bx n m k (cs i))) c 0 : Nat) : Int))), (7, .v (.b true))], []⟩)) else none)))] from ⟨qZX fun K r hr => ?_, trivial⟩) p S hp
  ·obtain ⟨hg, hr⟩ := zG hr
   rw [Bool.and_eq_true] at hg
   have hc := of_decide_eq_true hg.1
   have hk := of_decide_eq_true hg.2
   exact (lpRb K js ms bx n m k cs c hc hk).trans hr
 ·refine (pxRBr js ms bx n m k cs c).trans ?_
  unfold rBrI rNbr
  simp only [qZV, zYZ, decide_eq_true hk]
  cases hc : (cErr js ms n m cs c) with
  | false => rfl
  | true =>
   have h8 := (qVQ hc).2.1
   simp only [decide_eq_true (show c ≤ 50 by omega), Bool.and_true]
   cases (allN (fun i : Nat => !(brB js ms bx n m k (cs i))) c 0) <;> rfl
theorem cErr_one {js : Nat → J} {ms : Nat → Ms} {n m : Nat} {cs : Nat → Cn} {c : Nat} (h : cErr js ms n m cs c = true) {i : Nat} (hi : i < c) : cErr js ms n m (fun _ => cs i) 1 = true := by
 obtain ⟨h0, h8, hh⟩ := qVQ h
 unfold cErr
 rw [decide_eq_true h0, decide_eq_false (show ¬ (8 : Int) < ((1 : Nat) : Int) by decide)]
 show conB n (cs i) && true = true
 simp only [decide_true, Bool.and_true]
 exact decide_eq_true (hh i hi)
theorem vOk_of (js : Nat → J) (ms : Nat → Ms) (bx : Nat → Iv) (n m k : Nat) (cs : Nat → Cn) (c : Nat) (hc : (cErr js ms n m cs c) = true) {i : Nat} (hi : i < c) : vOk js ms bx n m k (cs i) = pIn js ms bx n m k := by
 unfold vOk
 rw [cErr_one hc hi, Bool.true_and]
theorem vI_of (js : Nat → J) (ms : Nat → Ms) (bx : Nat → Iv) (n m k : Nat) (cs : Nat → Cn) (c : Nat) (hc : (cErr js ms n m cs c) = true) (hp : pIn js ms bx n m k = true) {i : Nat} (hi : i < c) : (⟨vLo js ms bx n m k (cs i), vHi js ms bx n m k (cs i)⟩ : Iv) = vI js bx n cs i := by
 unfold vI vLo vHi
 rw [vOk_of js ms bx n m k cs c hc hi, hp]
 rfl
theorem hold_eq (js : Nat → J) (ms : Nat → Ms) (bx : Nat → Iv) (n m k : Nat) (cs : Nat → Cn) (c : Nat) : ((cErr js ms n m cs c) && (rIn js ms bx n m k && rHoldB js ms bx n m k cs c)) = ((cErr js ms n m cs c) && (pIn js ms bx n m k && holdB cs (vI js bx n cs) c)) := by
 cases hc : (cErr js ms n m cs c) with
 | false => rfl
 | true =>
  rw [in_eq]
  cases hp : pIn js ms bx n m k with
  | false => rfl
  | true =>
   simp only [Bool.true_and]
   unfold rHoldB holdB
   exact allN_congr fun j _ hj => by rw [vI_of js ms bx n m k cs c hc hp (by omega)]
theorem firstI_congr {g g' : Nat → Bool} : ∀ {k p : Nat}, (∀ j, p ≤ j → j < p + k → g j = g' j) → Go.Rx.firstI g k p = Go.Rx.firstI g' k p
 | 0, _, _ => rfl
 | k + 1, p, h => by simp only [Go.Rx.firstI, h p (Nat.le_refl _) (by omega), firstI_congr (k := k) (p := p + 1) fun j h1 h2 => h j (by omega) (by omega)]
theorem nbr_eq (js : Nat → J) (ms : Nat → Ms) (bx : Nat → Iv) (n m k : Nat) (cs : Nat → Cn) (c : Nat) (hc : (cErr js ms n m cs c) = true) (hp : pIn js ms bx n m k = true) : rNbr js ms bx n m k cs c = nbrB cs (vI js bx n cs) c ∧ rBrI js ms bx n m k cs c = brkI cs (vI js bx n cs) c := by
 have e : ∀ j, 0 ≤ j → j < 0 + c → (!brB js ms bx n m k (cs j)) = !outR (cs j) (vI js bx n cs j) := fun j _ hj => by
  unfold brB
  rw [vOk_of js ms bx n m k cs c hc (by omega), hp, vI_of js ms bx n m k cs c hc hp (by omega), Bool.true_and]
 have e1 : rNbr js ms bx n m k cs c = nbrB cs (vI js bx n cs) c := by unfold rNbr nbrB; exact allN_congr e
 refine ⟨e1, ?_⟩
 unfold rBrI brkI
 rw [e1, firstI_congr e]
theorem nbr_no (js : Nat → J) (ms : Nat → Ms) (bx : Nat → Iv) (n m k : Nat) (cs : Nat → Cn) (c : Nat) (hc : (cErr js ms n m cs c) = true) (hp : pIn js ms bx n m k = false) : rNbr js ms bx n m k cs c = true := by
 unfold rNbr
 refine allN_iff.2 fun j _ hj => ?_
 unfold brB
 rw [vOk_of js ms bx n m k cs c hc (by omega), hp]; rfl
theorem brk_eq (js : Nat → J) (ms : Nat → Ms) (bx : Nat → Iv) (n m k : Nat) (cs : Nat → Cn) (c : Nat) : (bif (cErr js ms n m cs c) then rBrI js ms bx n m k cs c else 0) = (bif (cErr js ms n m cs c) && pIn js ms bx n m k then brkI cs (vI js bx n cs) c else 0) ∧ ((cErr js ms n m cs c) && !rNbr js ms bx n m k cs c) = ((cErr js ms n m cs c) && pIn js ms bx n m k && !nbrB cs (vI js bx n cs) c) := by
 cases hc : (cErr js ms n m cs c) with
 | false => exact ⟨rfl, rfl⟩
 | true =>
  cases hp : pIn js ms bx n m k with
  | false =>
   have := nbr_no js ms bx n m k cs c hc hp
   refine ⟨?_, by rw [this]; rfl⟩
   unfold rBrI
   rw [this]; rfl
  | true =>
   obtain ⟨e1, e2⟩ := nbr_eq js ms bx n m k cs c hc hp
   rw [e1, e2]
   exact ⟨rfl, by simp⟩
theorem snd_RBr' (js : Nat → J) (ms : Nat → Ms) (bx : Nat → Iv) (n m k : Nat) (cs : Nat → Cn) (c : Nat) (hk : k ≤ 50) : SndA1 Tryz.prog 49 [.a [.lf n (fJ js), .lf m (fM ms)], .lf c (fC cs), .lf k (fB bx)] (.v (.t [.n .i64 (bif (cErr js ms n m cs c) && pIn js ms bx n m k then brkI cs (vI js bx n cs) c else 0), .b ((cErr js ms n m cs c) && pIn js ms bx n m k && !nbrB cs (vI js bx n cs) c)])) := by
 have h := snd_RBr js ms bx n m k cs c hk
 obtain ⟨e1, e2⟩ := brk_eq js ms bx n m k cs c
 rw [e1, e2] at h
 exact h
theorem snd_RHo' (js : Nat → J) (ms : Nat → Ms) (bx : Nat → Iv) (n m k : Nat) (cs : Nat → Cn) (c : Nat) (hk : k ≤ 50) : SndA1 Tryz.prog 50 [.a [.lf n (fJ js), .lf m (fM ms)], .lf c (fC cs), .lf k (fB bx)] (.v (.b ((cErr js ms n m cs c) && (pIn js ms bx n m k && holdB cs (vI js bx n cs) c)))) := by
 have h := snd_RHo js ms bx n m k cs c hk
 rw [hold_eq] at h
 exact h
theorem snd_dec (js : Nat → J) (ms : Nat → Ms) (bx : Nat → Iv) (n m k : Nat) (cs : Nat → Cn) (c : Nat) (hk : k ≤ 50) : SndA1 Tryz.prog 19 [.a [.lf n (fJ js), .lf m (fM ms)], .lf c (fC cs), .lf k (fB bx)] (.v (.b true)) := by
 refine yV (N := 60) tabOk mixed (OrL.ok (l := [(23, qXH [.a [.lf n (fJ js), .lf m (fM ms)], .lf c (fC cs), .lf k (fB bx)] (.v (.t [.n .i64 (bif (cErr js ms n m cs c) && pIn js ms bx n m k then brkI cs (vI js bx n cs) c else 0), .b ((cErr js ms n m cs c) && pIn js ms bx n m k && !nbrB cs (vI js bx n cs) c)]))), (49, zZQ [.a [.lf n (fJ js), .lf m (fM ms)], .lf c (fC cs), .lf k (fB bx)] (decide (k ≤ 50)) (.v (.t [.n .i64 (bif (cErr js ms n m cs c) && pIn js ms bx n m k then brkI cs (vI js bx n cs) c else 0), .b ((cErr js ms n m cs c) && pIn js ms bx n m k && !nbrB cs (vI js bx n cs) c)]))), (24, qXH [.a [.lf n (fJ js), .lf m (fM ms)], .lf c (fC cs), .lf k (fB bx)] (.v (.b ((cErr js ms n m cs c) && (pIn js ms bx n m k && holdB cs (vI js bx n cs) c))))), (50, zZQ [.a [.lf n (fJ js), .lf m (fM ms)], .lf c (fC cs), .lf k (fB bx)] (decide (k ≤ 50)) (.v (.b ((cErr js ms n m cs c) && (pIn js ms bx n m k && holdB cs (vI js bx n cs) c)))))]) ⟨qVJ (snd_PB js ms bx n m k cs c), zYY (fun h => snd_RBr' js ms bx n m k cs c (of_decide_eq_true h)), qVJ (snd_PH js ms bx n m k cs c), zYY (fun h => snd_RHo' js ms bx n m k cs c (of_decide_eq_true h)), trivial⟩) ?_
 refine (by kernel_rfl : _ = bif (g1 [.a [.lf n (fJ js), .lf m (fM ms)], .lf c (fC cs), .lf k (fB bx)]) then (bif ((cErr js ms n m cs c) && pIn js ms bx n m k && !nbrB cs (vI js bx n cs) c) then (bif (g1 [.a [.lf n (fJ js), .lf m (fM ms)], .lf c (fC cs), .lf k (fB bx)] && decide (k ≤ 50)) then (bif ((cErr js ms n m cs c) && pIn js ms bx n m k && !nbrB cs (vI js bx n cs) c) then (bif (decide ((bif (cErr js ms n m cs c) && pIn js ms bx n m k then brkI cs (vI js bx n cs) c else 0) = (bif (cErr js ms n m cs c) && pIn js ms bx n m k then brkI cs (vI js bx n cs) c else 0))) then (bif (g1 [.a [.lf n (fJ js), .lf m (fM ms)], .lf c (fC cs), .lf k (fB bx)]) then (bif ((cErr js ms n m cs c) && (pIn js ms bx n m k && holdB cs (vI js bx n cs) c)) then (bif (g1 [.a [.lf n (fJ js), .lf m (fM ms)], .lf c (fC cs), .lf k (fB bx)] && decide (k ≤ 50)) then (bif ((cErr js ms n m cs c) && (pIn js ms bx n m k && holdB cs (vI js bx n cs) c)) then some (.v (.b true), [])
 else some (.v (.b false), []))
 else none)
 else bif (g1 [.a [.lf n (fJ js), .lf m (fM ms)], .lf c (fC cs), .lf k (fB bx)] && decide (k ≤ 50)) then (bif ((cErr js ms n m cs c) && (pIn js ms bx n m k && holdB cs (vI js bx n cs) c)) then some (.v (.b false), [])
 else some (.v (.b true), []))
 else none)
 else none)
 else some (.v (.b false), []))
 else bif (decide ((bif (cErr js ms n m cs c) && pIn js ms bx n m k then brkI cs (vI js bx n cs) c else 0) = (bif (cErr js ms n m cs c) && pIn js ms bx n m k then brkI cs (vI js bx n cs) c else 0))) then some (.v (.b false), [])
 else some (.v (.b false), []))
 else none)
 else bif (g1 [.a [.lf n (fJ js), .lf m (fM ms)], .lf c (fC cs), .lf k (fB bx)] && decide (k ≤ 50)) then (bif ((cErr js ms n m cs c) && pIn js ms bx n m k && !nbrB cs (vI js bx n cs) c) then (bif (decide ((bif (cErr js ms n m cs c) && pIn js ms bx n m k then brkI cs (vI js bx n cs) c else 0) = (bif (cErr js ms n m cs c) && pIn js ms bx n m k then brkI cs (vI js bx n cs) c else 0))) then some (.v (.b false), [])
 else some (.v (.b false), []))
 else bif (decide ((bif (cErr js ms n m cs c) && pIn js ms bx n m k then brkI cs (vI js bx n cs) c else 0) = (bif (cErr js ms n m cs c) && pIn js ms bx n m k then brkI cs (vI js bx n cs) c else 0))) then (bif (g1 [.a [.lf n (fJ js), .lf m (fM ms)], .lf c (fC cs), .lf k (fB bx)]) then (bif ((cErr js ms n m cs c) && (pIn js ms bx n m k && holdB cs (vI js bx n cs) c)) then (bif (g1 [.a [.lf n (fJ js), .lf m (fM ms)], .lf c (fC cs), .lf k (fB bx)] && decide (k ≤ 50)) then (bif ((cErr js ms n m cs c) && (pIn js ms bx n m k && holdB cs (vI js bx n cs) c)) then some (.v (.b true), [])
 else some (.v (.b false), []))
 else none)
 else bif (g1 [.a [.lf n (fJ js), .lf m (fM ms)], .lf c (fC cs), .lf k (fB bx)] && decide (k ≤ 50)) then (bif ((cErr js ms n m cs c) && (pIn js ms bx n m k && holdB cs (vI js bx n cs) c)) then some (.v (.b false), [])
 else some (.v (.b true), []))
 else none)
 else none)
 else some (.v (.b false), []))
 else none)
 else none).trans ?_
 simp only [zYZ, decide_eq_true hk, Bool.and_self, cond_true, decide_true, beq_self_eq_true]
 cases ((cErr js ms n m cs c) && pIn js ms bx n m k && !nbrB cs (vI js bx n cs) c) <;> cases ((cErr js ms n m cs c) && (pIn js ms bx n m k && holdB cs (vI js bx n cs) c)) <;> rfl
end Go.Proofs.YtmbnpjpggccefaaGreat.Nj
namespace Go.Proofs.YtmbnpjpggccefaaGreat.Nk
open Go.Rx Rt Go.Sx Go.RowKit Od Ov Pc Na Nb Nc Nd Nx Nf Ng Nj
noncomputable def gP (p : Prop) : Bool := @decide p (Classical.propDecidable _)
theorem gP_of {p : Prop} (h : p) : gP p = true := @decide_eq_true _ (Classical.propDecidable _) h
theorem gP_spec {p : Prop} (h : gP p = true) : p := @of_decide_eq_true _ (Classical.propDecidable _) h
def isDec (ps : List PV) : Prop := ∃ (js : Nat → J) (ms : Nat → Ms) (bx : Nat → Iv) (n m k : Nat) (cs : Nat → Cn) (c : Nat), k ≤ 50 ∧ ps = [.a [.lf n (fJ js), .lf m (fM ms)], .lf c (fC cs), .lf k (fB bx)]
noncomputable def o_dec : List PV → Option (Bool × Ret) := fun ps => some (gP (isDec ps), .v (.b true))
theorem ok_dec : OneOk Tryz.prog 19 o_dec := by
 intro ps r hh
 unfold o_dec at hh
 simp only [Option.some.injEq, Prod.mk.injEq] at hh
 obtain ⟨hg, rfl⟩ := hh
 obtain ⟨js, ms, bx, n, m, k, cs, c, hk, rfl⟩ := gP_spec hg
 exact snd_dec js ms bx n m k cs c hk
set_option maxRecDepth 100000 in
theorem tr_law (js : Nat → J) (ms : Nat → Ms) (n m : Nat) (cs : Nat → Cn) (lc : Nat) (bx : Nat → Iv) (k : Nat) (ja : Nat → J) (ma : Nat → Ms) (na ga : Nat) (cd : Nat → Cn) (d : Nat) (be : Nat → Iv) (ke : Nat) (L M O : List (List PV)) (q u : Int) : runK T (OrL.k [(12, qXH [] (.v (.b true))), (13, qXH [.l L] (.v (.a [.lf na (fJ ja), .lf ga (fM ma)]))), (15, qXH [.n .i64 q, .n .i64 5] (.v (.n .i64 u))), (14, qXH [.a [.lf na (fJ ja), .lf ga (fM ma)], .n .i64 u, .l M] (.v (.lf d (fC cd)))), (8, qXH [.a [.lf na (fJ ja), .lf ga (fM ma)], .l O] (.v (.lf ke (fB be)))), (19, o_dec)]) 60 5 [.a [.lf n (fJ js), .lf m (fM ms)], .lf lc (fC cs), .lf k (fB bx), .l L, .l M, .l O, .n .i64 q] =
 bif (decide ((n : Int) ≤ 12)) then (bif (decide ((lc : Int) ≤ 20)) then (bif (decide (20 < (k : Int))) then (bif (g1 []) then some (.v (.b true), [])
 else none)
 else bif (g1 [(.l L)]) then (bif (g1 [.n .i64 q, .n .i64 5]) then (bif (g1 [.a [.lf na (fJ ja), .lf ga (fM ma)], .n .i64 u, (.l M)]) then (bif (g1 []) then (bif (gP (isDec [.a [.lf n (fJ js), .lf m (fM ms)], .lf lc (fC cs), .lf k (fB bx)])) then (bif (g1 [.a [.lf na (fJ ja), .lf ga (fM ma)], (.l O)]) then (bif (gP (isDec [.a [.lf na (fJ ja), .lf ga (fM ma)], .lf d (fC cd), .lf ke (fB be)])) then (bif (gP (isDec [.a [.lf na (fJ ja), .lf ga (fM ma)], .lf d (fC cd), .lf k (fB bx)])) then (bif (g1 [.a [.lf na (fJ ja), .lf ga (fM ma)], (.l O)]) then (bif (gP (isDec [.a [.lf na (fJ ja), .lf ga (fM ma)], .lf lc (fC cs), .lf ke (fB be)])) then some (.v (.b true), [])
 else none)
 else none)
 else none)
 else none)
 else none)
 else none)
 else none)
 else none)
 else none)
 else none)
 else bif (g1 []) then some (.v (.b true), [])
 else none)
 else bif (g1 []) then some (.v (.b true), [])
 else none := by kernel_rfl
theorem gen_law (js : Nat → J) (ms : Nat → Ms) (n m : Nat) (cs : Nat → Cn) (lc : Nat) (bx : Nat → Iv) (k : Nat) (ja : Nat → J) (ma : Nat → Ms) (na ga : Nat) (cd : Nat → Cn) (d : Nat) (be : Nat → Iv) (ke : Nat) (L M O : List (List PV)) (q u : Int) (hke : ke ≤ 50) (h0 : SndA1 Tryz.prog 12 [] (.v (.b true))) (h1 : SndA1 Tryz.prog 13 [.l L] (.v (.a [.lf na (fJ ja), .lf ga (fM ma)]))) (h2 : SndA1 Tryz.prog 15 [.n .i64 q, .n .i64 5] (.v (.n .i64 u))) (h3 : SndA1 Tryz.prog 14 [.a [.lf na (fJ ja), .lf ga (fM ma)], .n .i64 u, .l M] (.v (.lf d (fC cd)))) (h4 : SndA1 Tryz.prog 8 [.a [.lf na (fJ ja), .lf ga (fM ma)], .l O] (.v (.lf ke (fB be)))) :
  SndA1 Tryz.prog 5 [.a [.lf n (fJ js), .lf m (fM ms)], .lf lc (fC cs), .lf k (fB bx), .l L, .l M, .l O, .n .i64 q] (.v (.b true)) := by
 refine yV (N := 60) tabOk mixed (OrL.ok (l := [(12, qXH [] (.v (.b true))), (13, qXH [.l L] (.v (.a [.lf na (fJ ja), .lf ga (fM ma)]))), (15, qXH [.n .i64 q, .n .i64 5] (.v (.n .i64 u))), (14, qXH [.a [.lf na (fJ ja), .lf ga (fM ma)], .n .i64 u, .l M] (.v (.lf d (fC cd)))), (8, qXH [.a [.lf na (fJ ja), .lf ga (fM ma)], .l O] (.v (.lf ke (fB be)))), (19, o_dec)]) ⟨qVJ h0, qVJ h1, qVJ h2, qVJ h3, qVJ h4, ok_dec, trivial⟩) ?_
 refine (tr_law js ms n m cs lc bx k ja ma na ga cd d be ke L M O q u).trans ?_
 by_cases hk : 20 < (k : Int)
 ·simp only [decide_eq_true hk, zYZ, cond_true, Bool.cond_self]
 ·have v1 : gP (isDec [.a [.lf n (fJ js), .lf m (fM ms)], .lf lc (fC cs), .lf k (fB bx)]) = true := gP_of ⟨js, ms, bx, n, m, k, cs, lc, by omega, rfl⟩
  have v2 : gP (isDec [.a [.lf na (fJ ja), .lf ga (fM ma)], .lf d (fC cd), .lf ke (fB be)]) = true := gP_of ⟨ja, ma, be, na, ga, ke, cd, d, by omega, rfl⟩
  have v3 : gP (isDec [.a [.lf na (fJ ja), .lf ga (fM ma)], .lf d (fC cd), .lf k (fB bx)]) = true := gP_of ⟨ja, ma, bx, na, ga, k, cd, d, by omega, rfl⟩
  have v4 : gP (isDec [.a [.lf na (fJ ja), .lf ga (fM ma)], .lf lc (fC cs), .lf ke (fB be)]) = true := gP_of ⟨ja, ma, be, na, ga, ke, cs, lc, by omega, rfl⟩
  simp only [decide_eq_false hk, zYZ, v1, v2, v3, v4, cond_true, cond_false, Bool.cond_self]
def j0 : J := ⟨ByteArray.empty, 0, 0, ⟨0, 0, 0⟩, 0, 0, 0, 0, 0, 0⟩
def m0 : Ms := ⟨0, 0, ⟨0, 0, 0⟩⟩
def c0 : Cn := ⟨0, 0, ⟨0, 0, 0⟩, ⟨0, 0, 0⟩, 0, 0⟩
def jaOf (l : List Int) : Nat → J := fun i => (jsOf l 0 (nJ l 0)).1.getD i j0
def maOf (l : List Int) : Nat → Ms := fun i => (msOf l 0 (nM l 0)).getD i m0
theorem rob_same (l : List Int) : Same (robP l) (.a [.lf (nJ l 0) (fJ (jaOf l)), .lf (nM l 0) (fM (maOf l))]) := by
 refine Same.a ⟨Same.lf ?_, Same.lf ?_, trivial⟩
 ·have := rows_fn j0 jp (jsOf l 0 (nJ l 0)).1
  rw [qVV] at this
  exact this
 ·have := rows_fn m0 mp (msOf l 0 (nM l 0))
  rw [msOf_len] at this
  exact this
theorem rob_same' (l : List Int) : Same (.a [.lf (nJ l 0) (fJ (jaOf l)), .lf (nM l 0) (fM (maOf l))]) (robP l) := by
 refine Same.a ⟨Same.l ?_, Same.l ?_, trivial⟩
 ·have := rows_fn j0 jp (jsOf l 0 (nJ l 0)).1
  rw [qVV] at this
  exact this
 ·have := rows_fn m0 mp (msOf l 0 (nM l 0))
  rw [msOf_len] at this
  exact this
noncomputable def cdOf (l m : List Int) (n : Nat) : Nat → Cn := fun i => (consOf l m n).getD i c0
def beOf (l o : List Int) : Nat → Iv := fun i => (boxOf l o).getD i ⟨0, 0⟩
theorem snd_robF {l : List Int} (hl : l.length ≤ 9223372036854775807) : SndA1 Tryz.prog 13 [intsP l] (.v (.a [.lf (nJ l 0) (fJ (jaOf l)), .lf (nM l 0) (fM (maOf l))])) := snd_res (rob_same l) (snd_robot hl)
theorem snd_consF {l m : List Int} {n : Nat} (hn : n ≤ 1000) (hm : m.length ≤ 9223372036854775807) : SndA1 Tryz.prog 14 [.a [.lf (nJ l 0) (fJ (jaOf l)), .lf (nM l 0) (fM (maOf l))], .n .i64 n, intsP m] (.v (.lf n (fC (cdOf l m n)))) := by
 refine snd_same (ps := [robP l, .n .i64 n, intsP m]) ⟨rob_same' l, Same.refl _, Same.refl _, trivial⟩ (Same.lf ?_) (snd_cons hn hm)
 have := rows_fn c0 cp (consOf l m n)
 rw [show (consOf l m n).length = n from cnsOf_len _ _ _ _] at this
 exact this
theorem snd_boxF {l o : List Int} (ho : o.length ≤ 9223372036854775807) : SndA1 Tryz.prog 8 [.a [.lf (nJ l 0) (fJ (jaOf l)), .lf (nM l 0) (fM (maOf l))], intsP o] (.v (.lf (nJ l 0) (fB (beOf l o)))) := by
 refine snd_same (ps := [robP l, intsP o]) ⟨rob_same' l, Same.refl _, trivial⟩ (Same.lf ?_) (snd_box ho)
 have := rows_fn (⟨0, 0⟩ : Iv) Rx.ivC (boxOf l o)
 rw [boxOf_len] at this
 exact this
theorem snd_law (js : Nat → J) (ms : Nat → Ms) (n m : Nat) (cs : Nat → Cn) (lc : Nat) (bx : Nat → Iv) (k : Nat) (l m' o : List Int) (q : Int) (hl : l.length ≤ 9223372036854775807) (hm : m'.length ≤ 9223372036854775807) (ho : o.length ≤ 9223372036854775807) (h0 : SndA1 Tryz.prog 12 [] (.v (.b true))) :
  SndA1 Tryz.prog 5 [.a [.lf n (fJ js), .lf m (fM ms)], .lf lc (fC cs), .lf k (fB bx), intsP l, intsP m', intsP o, .n .i64 q] (.v (.b true)) := by
 have hb := nJ_b l 0
 have hu : 0 ≤ q % 5 ∧ q % 5 < 5 := by omega
 have hw : q % 5 = (((q % 5).toNat : Nat) : Int) := by omega
 refine gen_law js ms n m cs lc bx k (jaOf l) (maOf l) (nJ l 0) (nM l 0) (cdOf l m' (q % 5).toNat) (q % 5).toNat (beOf l o) (nJ l 0) _ _ _ q (q % 5) (by omega) h0 (snd_robF hl) ?_ ?_ (snd_boxF ho)
 ·exact yJ (zZ Tryz.func15 (by kernel_rfl) (by kernel_rfl)) rfl rfl (fun w => mRound _ _ ⟨by omega, by omega⟩ w)
 ·have := snd_consF (l := l) (m := m') (n := (q % 5).toNat) (by omega) hm
  rw [← hw] at this
  exact this
end Go.Proofs.YtmbnpjpggccefaaGreat.Nk

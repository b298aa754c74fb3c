/- Part 13 of the texts behind the last one: rules and contracts. No condition. -/
import Derived.Test.YtmbnpjpggccefaaGreatMD12
namespace Go.Proofs.YtmbnpjpggccefaaGreat.Nc
open Go.Rx Rt Go.Sx Go.RowKit
open Ov Pc Na Nb
def MOK (n : Nat) (q : Ms) : Prop := (0 ≤ q.link ∧ q.link < n) ∧ (1 ≤ q.mass ∧ q.mass ≤ 65536) ∧ (-4194304 ≤ q.p.x ∧ q.p.x ≤ 4194304) ∧ (-4194304 ≤ q.p.y ∧ q.p.y ≤ 4194304) ∧ (-4194304 ≤ q.p.z ∧ q.p.z ≤ 4194304)
instance (n : Nat) (q : Ms) : Decidable (MOK n q) := by unfold MOK; exact inferInstance
def mokB (n : Nat) (q : Ms) : Bool := decide (MOK n q)
def mAll (ms : Nat → Ms) (n : Nat) : Nat → Nat → Bool
 | 0, _ => true
 | k + 1, p => mokB n (ms p) && mAll ms n k (p + 1)
def fbad (ms : Nat → Ms) (n : Nat) : Nat → Nat → Int
 | 0, _ => -1
 | k + 1, p => bif mokB n (ms p) then fbad ms n k (p + 1) else (p : Int)
theorem fbad_all (ms : Nat → Ms) (n : Nat) : ∀ k p, decide (0 ≤ fbad ms n k p) = !mAll ms n k p
 | 0, p => rfl
 | k + 1, p => by
  have ih := fbad_all ms n k (p + 1)
  by_cases hq : mokB n (ms p) = true
  ·simp only [fbad, mAll, hq, cond_true, Bool.true_and]
   exact ih
  ·rw [Bool.not_eq_true] at hq
   simp only [fbad, mAll, hq, cond_false, Bool.false_and, Bool.not_false]
   exact decide_eq_true (by omega)
def jE (js : Nat → J) (n : Nat) : Nat → Nat → Int
 | 0, _ => 0
 | k + 1, p => bif decide (jErr js n p = 0) then jE js n k (p + 1) else jErr js n p
def rErr (js : Nat → J) (ms : Nat → Ms) (n m : Nat) : Int := bif decide ((n : Int) = 0) then 801 else bif decide (10 < (n : Int)) then 801 else bif decide (jE js n n 0 = 0) then (bif decide (32 < (m : Int)) then 808 else bif mAll ms n m 0 then 0 else 808) else jE js n n 0
def mTp {α : Type} (n : Nat) (q : Ms) (a b : α) : α := (bif (decide (0 ≤ q.link)) then (bif (decide (q.link < (n : Int))) then (bif (decide (1 ≤ q.mass)) then (bif (decide (q.mass ≤ 65536)) then (bif (decide (q.p.x < (-4194304))) then b else (bif (decide (4194304 < q.p.x)) then b else (bif (decide (q.p.y < (-4194304))) then b else (bif (decide (4194304 < q.p.y)) then b else (bif (decide (q.p.z < (-4194304))) then b else (bif (decide (4194304 < q.p.z)) then b else a)))))) else b) else b) else b) else b)
theorem mTp_eq {α : Type} (n : Nat) (q : Ms) (a b : α) : mTp n q a b = bif mokB n q then a else b := by
 unfold mTp mokB
 by_cases h : MOK n q
 ·have h' := h
  obtain ⟨⟨h1, h2⟩, ⟨h3, h4⟩, ⟨h5, h6⟩, ⟨h7, h8⟩, h9, h10⟩ := h'
  rw [decide_eq_true h]
  simp only [cond_true]
  simp only [Bool.cond_eq_ite, decide_eq_true_eq]
  repeat' split
  all_goals first | rfl | (exfalso; omega)
 ·rw [decide_eq_false h]
  unfold MOK at h
  simp only [cond_false]
  simp only [Bool.cond_eq_ite, decide_eq_true_eq]
  repeat' split
  all_goals first | rfl | (exfalso; omega) | contradiction
set_option maxRecDepth 100000 in
theorem tr_cl (js : Nat → J) (ms : Nat → Ms) (n m : Nat) (q : Ms) : runK T (OrL.k []) 60 81 [.a (mp q), .c [.lf n (fJ js), .lf m (fM ms)] 0] = mTp n q (F_b false) (F_b true) := by kernel_rfl
theorem snd_cl (js : Nat → J) (ms : Nat → Ms) (n m : Nat) (q : Ms) : SndA1 Tryz.prog 81 [.a (mp q), .c [.lf n (fJ js), .lf m (fM ms)] 0] (.v (.b (!mokB n q))) := by
 refine yV (N := 60) tabOk mixed (OrL.ok (l := []) trivial) ?_
 rw [tr_cl, mTp_eq]
 cases mokB n q <;> rfl
noncomputable def zYQ (js : Nat → J) (ms : Nat → Ms) (n m : Nat) : List PV → Option (Bool × Ret) := fun ps => match ps with
 | [.a [.n .i64 a0, .n .i64 a1, .n .i64 a2, .n .i64 a3, .n .i64 a4], c] => some (gEq c (.c [.lf n (fJ js), .lf m (fM ms)] 0), .v (.b (!mokB n ⟨a0, a1, ⟨a2, a3, a4⟩⟩)))
 | _ => none
theorem ok_cl (js : Nat → J) (ms : Nat → Ms) (n m : Nat) : OneOk Tryz.prog 81 (zYQ js ms n m) := by
 intro ps r hh
 unfold zYQ at hh
 split at hh
 ·simp only [Option.some.injEq, Prod.mk.injEq] at hh
  obtain ⟨hg, rfl⟩ := hh
  obtain rfl := zQZ hg
  exact snd_cl js ms n m ⟨_, _, ⟨_, _, _⟩⟩
 ·cases hh
def hI (js : Nat → J) (ms : Nat → Ms) (n m : Nat) (i : Int) : St := ⟨[(0, .v (.lf m (fM ms))), (1, .v (.f 81 [] [.c [.lf n (fJ js), .lf m (fM ms)] 0])), (7, .v (.n .i64 (m : Int))), (8, .v (.n .i64 i))], []⟩
set_option maxRecDepth 100000 in
theorem rdI (G : St → Option (Ret × Mem)) (K : Cont) (js : Nat → J) (ms : Nat → Ms) (n m : Nat) (i : Int) : runCK 60 (cxF T (OrL.k [(81, zYQ js ms n m)]) 60 128 (ntmF T 128)) (ckF T (OrL.k [(81, zYQ js ms n m)]) 60) (yQ T 128 [0, 1, 0, 1]) (fun e τ => match e with
 | .normal => G (prune ((cxF T (OrL.k [(81, zYQ js ms n m)]) 60 128 (ntmF T 128)).T.hint (cxF T (OrL.k [(81, zYQ js ms n m)]) 60 128 (ntmF T 128)).me (jY (yQ T 128 [0, 1, 0, 1]))) τ)
 | e => K e (qXG ((cxF T (OrL.k [(81, zYQ js ms n m)]) 60 128 (ntmF T 128)).T.hint (cxF T (OrL.k [(81, zYQ js ms n m)]) 60 128 (ntmF T 128)).me (jY (yQ T 128 [0, 1, 0, 1]))) τ)) (hI js ms n m i) =
 (bif (decide (i < (m : Int))) then (bif (inB i m) then (bif (gEq (.c [.lf n (fJ js), .lf m (fM ms)] 0) (.c [.lf n (fJ js), .lf m (fM ms)] 0)) then (bif (!mokB n (ms (i).toNat)) then (K .ret ⟨[(4, .v (.n .i64 i))], []⟩)
 else (G (hI js ms n m (IntKind.i64.wrap (i + 1)))))
 else none)
 else none)
 else (K (.exit 0) ⟨[], []⟩)) := by kernel_rfl
theorem lpI (K : Cont) (js : Nat → J) (ms : Nat → Ms) (n m : Nat) (hm : m ≤ 1000) : ∀ (k p q : Nat), p + k = m → k < q → LF 60 (cxF T (OrL.k [(81, zYQ js ms n m)]) 60 128 (ntmF T 128)) (ckF T (OrL.k [(81, zYQ js ms n m)]) 60) (yQ T 128 [0, 1, 0, 1]) ((cxF T (OrL.k [(81, zYQ js ms n m)]) 60 128 (ntmF T 128)).T.hint (cxF T (OrL.k [(81, zYQ js ms n m)]) 60 128 (ntmF T 128)).me (jY (yQ T 128 [0, 1, 0, 1]))) K q (hI js ms n m p) = (bif decide (fbad ms n k p = -1) then K (.exit 0) ⟨[], []⟩ else K .ret ⟨[(4, .v (.n .i64 (fbad ms n k p)))], []⟩)
 | 0, p, q + 1, hp, hq => by
  refine (rdI (fun σ => LF 60 (cxF T (OrL.k [(81, zYQ js ms n m)]) 60 128 (ntmF T 128)) (ckF T (OrL.k [(81, zYQ js ms n m)]) 60) (yQ T 128 [0, 1, 0, 1]) ((cxF T (OrL.k [(81, zYQ js ms n m)]) 60 128 (ntmF T 128)).T.hint (cxF T (OrL.k [(81, zYQ js ms n m)]) 60 128 (ntmF T 128)).me (jY (yQ T 128 [0, 1, 0, 1]))) K q σ) K js ms n m p).trans ?_
  rw [decide_eq_false (show ¬ (p : Int) < (m : Int) by omega)]
  rfl
 | k + 1, p, q + 1, hp, hq => by
  refine (rdI (fun σ => LF 60 (cxF T (OrL.k [(81, zYQ js ms n m)]) 60 128 (ntmF T 128)) (ckF T (OrL.k [(81, zYQ js ms n m)]) 60) (yQ T 128 [0, 1, 0, 1]) ((cxF T (OrL.k [(81, zYQ js ms n m)]) 60 128 (ntmF T 128)).T.hint (cxF T (OrL.k [(81, zYQ js ms n m)]) 60 128 (ntmF T 128)).me (jY (yQ T 128 [0, 1, 0, 1]))) K q σ) K js ms n m p).trans ?_
  rw [decide_eq_true (show (p : Int) < (m : Int) by omega), qYU (show p < m by omega), qWV (by omega), lpI K js ms n m hm k (p + 1) q (by omega) (by omega), toN, gEq_self]
  by_cases hq : mokB n (ms p) = true
  ·simp only [fbad, hq, cond_true, cond_false, Bool.not_true]
  ·rw [Bool.not_eq_true] at hq
   simp only [fbad, hq, cond_true, cond_false, Bool.not_false, decide_eq_false (show ¬ (p : Int) = -1 by omega)]
set_option maxRecDepth 100000 in
theorem pxI (js : Nat → J) (ms : Nat → Ms) (n m : Nat) : runKL T (OrL.k [(81, zYQ js ms n m)]) (qQU [([0, 1, 0, 1], sumAt (hI js ms n m 0) (fun K => (bif decide (fbad ms n m 0 = -1) then K (.exit 0) ⟨[], []⟩ else K .ret ⟨[(4, .v (.n .i64 (fbad ms n m 0)))], []⟩)))]) 60 128 [.lf m (fM ms), .f 81 [] [.c [.lf n (fJ js), .lf m (fM ms)] 0]] =
 bif gSt (hI js ms n m 0) (hI js ms n m 0) then (bif decide (fbad ms n m 0 = -1) then some (.v (.n .i64 (-1)), []) else some (.v (.n .i64 (fbad ms n m 0)), [])) else none := by kernel_rfl
theorem snd_if (js : Nat → J) (ms : Nat → Ms) (n m : Nat) (hm : m ≤ 50) : SndA1 Tryz.prog 128 [.lf m (fM ms), .f 81 [] [.c [.lf n (fJ js), .lf m (fM ms)] 0]] (.v (.n .i64 (fbad ms n m 0))) := by
 refine uZ (N := 60) (LO := qQU [([0, 1, 0, 1], sumAt (hI js ms n m 0) (fun K => (bif decide (fbad ms n m 0 = -1) then K (.exit 0) ⟨[], []⟩ else K .ret ⟨[(4, .v (.n .i64 (fbad ms n m 0)))], []⟩)))]) tabOk mixed (OrL.ok (l := [(81, zYQ js ms n m)]) ⟨ok_cl js ms n m, trivial⟩) (fun p S hp => ?_) ?_
 ·refine qQK (L := yQ T 128) (l := [([0, 1, 0, 1], sumAt (hI js ms n m 0) (fun K => (bif decide (fbad ms n m 0 = -1) then K (.exit 0) ⟨[], []⟩ else K .ret ⟨[(4, .v (.n .i64 (fbad ms n m 0)))], []⟩)))]) (show AllP _ [([0, 1, 0, 1], sumAt (hI js ms n m 0) (fun K => (bif decide (fbad ms n m 0 = -1) then K (.exit 0) ⟨[], []⟩ else K .ret ⟨[(4, .v (.n .i64 (fbad ms n m 0)))], []⟩)))] from ⟨qZX fun K r hr => ?_, trivial⟩) p S hp
  exact (lpI K js ms n m (by omega) m 0 60 (by omega) (by omega)).trans hr
 ·refine (pxI js ms n m).trans ?_
  rw [qZV, cond_true]
  by_cases h : fbad ms n m 0 = -1
  ·rw [decide_eq_true h, h]; rfl
  ·rw [decide_eq_false h]; rfl
noncomputable def g1 (l : List PV) : Bool := gEq (.t l) (.t l)
theorem zYZ (l : List PV) : g1 l = true := gEq_self _
noncomputable def qXH (as_ : List PV) (r : Ret) : List PV → Option (Bool × Ret) := fun ps => some (gEq (.t ps) (.t as_), r)
theorem qVJ {f : Nat} {as_ : List PV} {r : Ret} (h : SndA1 Tryz.prog f as_ r) : OneOk Tryz.prog f (qXH as_ r) := by
 intro ps q hh
 unfold qXH at hh
 simp only [Option.some.injEq, Prod.mk.injEq] at hh
 obtain ⟨hg, rfl⟩ := hh
 have := zQZ hg
 simp only [PV.t.injEq] at this
 rw [this]
 exact h
theorem snd_cf (js : Nat → J) (ms : Nat → Ms) (n m : Nat) (hm : m ≤ 50) : SndA1 Tryz.prog 80 [.lf m (fM ms), .f 81 [] [.c [.lf n (fJ js), .lf m (fM ms)] 0]] (.v (.b (!mAll ms n m 0))) := by
 refine yV (N := 60) tabOk mixed (OrL.ok (l := [(128, qXH [.lf m (fM ms), .f 81 [] [.c [.lf n (fJ js), .lf m (fM ms)] 0]] (.v (.n .i64 (fbad ms n m 0))))]) ⟨qVJ (snd_if js ms n m hm), trivial⟩) ?_
 refine (by kernel_rfl : _ = bif (g1 [.lf m (fM ms), .f 81 [] [.c [.lf n (fJ js), .lf m (fM ms)] 0]]) then (bif (decide (0 ≤ (fbad ms n m 0))) then some (.v (.b true), [])
 else some (.v (.b false), []))
 else none).trans ?_
 rw [zYZ, cond_true, ← fbad_all]
 cases decide (0 ≤ fbad ms n m 0) <;> rfl
noncomputable def qGJ (js : Nat → J) (ms : Nat → Ms) (n m : Nat) : List PV → Option (Bool × Ret) := fun ps => match ps with
 | [r, .n .i64 i] => some (gEq r (.a [.lf n (fJ js), .lf m (fM ms)]) && (inB i n && decide (n ≤ 50)), .v (.n .i64 (jErr js n i.toNat)))
 | _ => none
theorem ok_o_cjp (js : Nat → J) (ms : Nat → Ms) (n m : Nat) : OneOk Tryz.prog 79 (qGJ js ms n m) := by
 intro ps r hh
 unfold qGJ at hh
 split at hh
 ·simp only [Option.some.injEq, Prod.mk.injEq, Bool.and_eq_true] at hh
  obtain ⟨⟨hg, hi, hd⟩, rfl⟩ := hh
  obtain rfl := zQZ hg
  have hn := of_decide_eq_true hd
  obtain ⟨i0, i1⟩ := inB_spec hi
  rename_i i
  have := snd_cjp js ms n m hn i.toNat (by omega)
  rw [show ((i.toNat : Nat) : Int) = i by omega] at this
  exact this
 ·cases hh
noncomputable def qJW (js : Nat → J) (ms : Nat → Ms) (n m : Nat) : List PV → Option (Bool × Ret) := fun ps => match ps with
 | [r, .n .i64 i] => some (gEq r (.lf n (fJ js)) && (inB i n && decide (n ≤ 50)), .v (.n .i64 (jErr js n i.toNat)))
 | _ => none
theorem ok_o_cjr (js : Nat → J) (ms : Nat → Ms) (n m : Nat) : OneOk Tryz.prog 84 (qJW js ms n m) := by
 intro ps r hh
 unfold qJW at hh
 split at hh
 ·simp only [Option.some.injEq, Prod.mk.injEq, Bool.and_eq_true] at hh
  obtain ⟨⟨hg, hi, hd⟩, rfl⟩ := hh
  obtain rfl := zQZ hg
  have hn := of_decide_eq_true hd
  obtain ⟨i0, i1⟩ := inB_spec hi
  rename_i i
  have := snd_cjr js n hn i.toNat (by omega)
  rw [show ((i.toNat : Nat) : Int) = i by omega] at this
  exact this
 ·cases hh
noncomputable def qGK (js : Nat → J) (ms : Nat → Ms) (n m : Nat) : List PV → Option (Bool × Ret) := fun ps => some (gEq (.t ps) (.t [.lf m (fM ms), .f 81 [] [.c [.lf n (fJ js), .lf m (fM ms)] 0]]) && decide (m ≤ 50), .v (.b (!mAll ms n m 0)))
theorem ok_cfm (js : Nat → J) (ms : Nat → Ms) (n m : Nat) : OneOk Tryz.prog 80 (qGK js ms n m) := by
 intro ps q hh
 unfold qGK at hh
 simp only [Option.some.injEq, Prod.mk.injEq, Bool.and_eq_true] at hh
 obtain ⟨⟨hg, hm⟩, rfl⟩ := hh
 have := zQZ hg
 simp only [PV.t.injEq] at this
 rw [this]
 exact snd_cf js ms n m (of_decide_eq_true hm)
def hK (js : Nat → J) (ms : Nat → Ms) (n m : Nat) (i : Int) : St := ⟨[(1, .p 1 0), (17, .v (.n .i64 (n : Int))), (18, .v (.n .i64 i))], [(1, .blk [.v (.lf n (fJ js)), .v (.lf m (fM ms))])]⟩
set_option maxRecDepth 100000 in
theorem rdK (G : St → Option (Ret × Mem)) (K : Cont) (js : Nat → J) (ms : Nat → Ms) (n m : Nat) (i : Int) : runCK 60 (cxF T (OrL.k [(79, qGJ js ms n m), (80, qGK js ms n m)]) 60 43 (ntmF T 43)) (ckF T (OrL.k [(79, qGJ js ms n m), (80, qGK js ms n m)]) 60) (yQ T 43 [0, 1, 0, 1, 1]) (fun e τ => match e with
 | .normal => G (prune ((cxF T (OrL.k [(79, qGJ js ms n m), (80, qGK js ms n m)]) 60 43 (ntmF T 43)).T.hint (cxF T (OrL.k [(79, qGJ js ms n m), (80, qGK js ms n m)]) 60 43 (ntmF T 43)).me (jY (yQ T 43 [0, 1, 0, 1, 1]))) τ)
 | e => K e (qXG ((cxF T (OrL.k [(79, qGJ js ms n m), (80, qGK js ms n m)]) 60 43 (ntmF T 43)).T.hint (cxF T (OrL.k [(79, qGJ js ms n m), (80, qGK js ms n m)]) 60 43 (ntmF T 43)).me (jY (yQ T 43 [0, 1, 0, 1, 1]))) τ)) (hK js ms n m i) =
 (bif (decide (i < (n : Int))) then (bif (gEq (.a [.lf n (fJ js), .lf m (fM ms)]) (.a [.lf n (fJ js), .lf m (fM ms)]) && (inB i n && decide (n ≤ 50))) then (bif (!decide ((jErr js n (i).toNat) = 0)) then (K .ret ⟨[(1, .p 1 0), (2, .v (.n .i64 (jErr js n (i).toNat)))], [(1, .blk [.v (.lf n (fJ js)), .v (.lf m (fM ms))])]⟩)
 else (G (hK js ms n m (IntKind.i64.wrap (i + 1)))))
 else none)
 else (K (.exit 0) ⟨[(1, .p 1 0)], [(1, .blk [.v (.lf n (fJ js)), .v (.lf m (fM ms))])]⟩)) := by kernel_rfl
def rK (js : Nat → J) (ms : Nat → Ms) (n m : Nat) (e : Int) : St := ⟨[(1, .p 1 0), (2, .v (.n .i64 e))], [(1, .blk [.v (.lf n (fJ js)), .v (.lf m (fM ms))])]⟩
def oK (js : Nat → J) (ms : Nat → Ms) (n m : Nat) : St := ⟨[(1, .p 1 0)], [(1, .blk [.v (.lf n (fJ js)), .v (.lf m (fM ms))])]⟩
theorem lpK (K : Cont) (js : Nat → J) (ms : Nat → Ms) (n m : Nat) (hn : n ≤ 10) : ∀ (k p q : Nat), p + k = n → k < q → LF 60 (cxF T (OrL.k [(79, qGJ js ms n m), (80, qGK js ms n m)]) 60 43 (ntmF T 43)) (ckF T (OrL.k [(79, qGJ js ms n m), (80, qGK js ms n m)]) 60) (yQ T 43 [0, 1, 0, 1, 1]) ((cxF T (OrL.k [(79, qGJ js ms n m), (80, qGK js ms n m)]) 60 43 (ntmF T 43)).T.hint (cxF T (OrL.k [(79, qGJ js ms n m), (80, qGK js ms n m)]) 60 43 (ntmF T 43)).me (jY (yQ T 43 [0, 1, 0, 1, 1]))) K q (hK js ms n m p) = (bif decide (jE js n k p = 0) then (K (.exit 0) (oK js ms n m)) else (K .ret (rK js ms n m (jE js n k p))))
 | 0, p, q + 1, hp, hq => by
  refine (rdK (fun σ => LF 60 (cxF T (OrL.k [(79, qGJ js ms n m), (80, qGK js ms n m)]) 60 43 (ntmF T 43)) (ckF T (OrL.k [(79, qGJ js ms n m), (80, qGK js ms n m)]) 60) (yQ T 43 [0, 1, 0, 1, 1]) ((cxF T (OrL.k [(79, qGJ js ms n m), (80, qGK js ms n m)]) 60 43 (ntmF T 43)).T.hint (cxF T (OrL.k [(79, qGJ js ms n m), (80, qGK js ms n m)]) 60 43 (ntmF T 43)).me (jY (yQ T 43 [0, 1, 0, 1, 1]))) K q σ) K js ms n m p).trans ?_
  rw [decide_eq_false (show ¬ (p : Int) < (n : Int) by omega)]
  rfl
 | k + 1, p, q + 1, hp, hq => by
  refine (rdK (fun σ => LF 60 (cxF T (OrL.k [(79, qGJ js ms n m), (80, qGK js ms n m)]) 60 43 (ntmF T 43)) (ckF T (OrL.k [(79, qGJ js ms n m), (80, qGK js ms n m)]) 60) (yQ T 43 [0, 1, 0, 1, 1]) ((cxF T (OrL.k [(79, qGJ js ms n m), (80, qGK js ms n m)]) 60 43 (ntmF T 43)).T.hint (cxF T (OrL.k [(79, qGJ js ms n m), (80, qGK js ms n m)]) 60 43 (ntmF T 43)).me (jY (yQ T 43 [0, 1, 0, 1, 1]))) K q σ) K js ms n m p).trans ?_
  rw [decide_eq_true (show (p : Int) < (n : Int) by omega), qYU (show p < n by omega), qWV (by omega), lpK K js ms n m hn k (p + 1) q (by omega) (by omega), toN, gEq_self, decide_eq_true (show n ≤ 50 by omega)]
  by_cases hq : jErr js n p = 0
  ·simp only [jE, decide_eq_true hq, cond_true, cond_false, Bool.not_true, Bool.and_self]
  ·simp only [jE, decide_eq_false hq, cond_true, cond_false, Bool.not_false, Bool.and_self]
   rfl
set_option maxRecDepth 100000 in
theorem pxK (js : Nat → J) (ms : Nat → Ms) (n m : Nat) : runKL T (OrL.k [(79, qGJ js ms n m), (80, qGK js ms n m)]) (qQU [([0, 1, 0, 1, 1], sumAt (hK js ms n m 0) (fun K => bif decide (10 < (n : Int)) then none else (bif decide (jE js n n 0 = 0) then (K (.exit 0) (oK js ms n m)) else (K .ret (rK js ms n m (jE js n n 0))))))]) 60 43 [(.a [.lf n (fJ js), .lf m (fM ms)])] =
 bif decide ((n : Int) = 0) then some (.v (.n .i64 801), []) else (bif decide (10 < (n : Int)) then some (.v (.n .i64 801), []) else (bif gSt (hK js ms n m 0) (hK js ms n m 0) then (bif decide (10 < (n : Int)) then none else (bif decide (jE js n n 0 = 0) then bif (decide (32 < (m : Int))) then some (.v (.n .i64 808), [])
 else bif (g1 [.lf m (fM ms), .f 81 [] [.c [.lf n (fJ js), .lf m (fM ms)] 0]] && decide (m ≤ 50)) then (bif (!mAll ms n m 0) then some (.v (.n .i64 808), [])
 else some (.v (.n .i64 0), []))
 else none else some (.v (.n .i64 (jE js n n 0)), []))) else none)) := by kernel_rfl
theorem snd_chk (js : Nat → J) (ms : Nat → Ms) (n m : Nat) : SndA1 Tryz.prog 43 [(.a [.lf n (fJ js), .lf m (fM ms)])] (.v (.n .i64 (rErr js ms n m))) := by
 refine uZ (N := 60) (LO := qQU [([0, 1, 0, 1, 1], sumAt (hK js ms n m 0) (fun K => bif decide (10 < (n : Int)) then none else (bif decide (jE js n n 0 = 0) then (K (.exit 0) (oK js ms n m)) else (K .ret (rK js ms n m (jE js n n 0))))))]) tabOk mixed (OrL.ok (l := [(79, qGJ js ms n m), (80, qGK js ms n m)]) ⟨ok_o_cjp js ms n m, ok_cfm js ms n m, trivial⟩) (fun p S hp => ?_) ?_
 ·refine qQK (L := yQ T 43) (l := [([0, 1, 0, 1, 1], sumAt (hK js ms n m 0) (fun K => bif decide (10 < (n : Int)) then none else (bif decide (jE js n n 0 = 0) then (K (.exit 0) (oK js ms n m)) else (K .ret (rK js ms n m (jE js n n 0))))))]) (show AllP _ [([0, 1, 0, 1, 1], sumAt (hK js ms n m 0) (fun K => bif decide (10 < (n : Int)) then none else (bif decide (jE js n n 0 = 0) then (K (.exit 0) (oK js ms n m)) else (K .ret (rK js ms n m (jE js n n 0))))))] from ⟨qZX fun K r hr => ?_, trivial⟩) p S hp
  cases hq : decide (10 < (n : Int)) with
  | true => rw [hq] at hr; cases hr
  | false =>
   rw [hq] at hr
   have h10 := of_decide_eq_false hq
   exact (lpK K js ms n m (by omega) n 0 60 (by omega) (by omega)).trans hr
 ·refine (pxK js ms n m).trans ?_
  unfold rErr
  rw [qZV, zYZ]
  by_cases h0 : (n : Int) = 0
  ·rw [decide_eq_true h0]; rfl
  rw [decide_eq_false h0]
  by_cases h10 : 10 < (n : Int)
  ·rw [decide_eq_true h10]; rfl
  rw [decide_eq_false h10]
  by_cases hj : jE js n n 0 = 0
  ·rw [decide_eq_true hj]
   by_cases h32 : 32 < (m : Int)
   ·rw [decide_eq_true h32]; rfl
   rw [decide_eq_false h32, decide_eq_true (show m ≤ 50 by omega)]
   cases mAll ms n m 0 <;> rfl
  ·rw [decide_eq_false hj]; rfl
def hQ (js : Nat → J) (ms : Nat → Ms) (n m : Nat) (i : Int) : St := ⟨[(1, .p 1 0), (3, .v (.n .i64 i))], [(1, .blk [.v (.lf n (fJ js)), .v (.lf m (fM ms))])]⟩
set_option maxRecDepth 100000 in
theorem rdQ (G : St → Option (Ret × Mem)) (K : Cont) (js : Nat → J) (ms : Nat → Ms) (n m : Nat) (i : Int) : runCK 60 (cxF T (OrL.k [(84, qJW js ms n m)]) 60 45 (ntmF T 45)) (ckF T (OrL.k [(84, qJW js ms n m)]) 60) (yQ T 45 [0, 1, 0, 1, 1]) (fun e τ => match e with
 | .normal => G (prune ((cxF T (OrL.k [(84, qJW js ms n m)]) 60 45 (ntmF T 45)).T.hint (cxF T (OrL.k [(84, qJW js ms n m)]) 60 45 (ntmF T 45)).me (jY (yQ T 45 [0, 1, 0, 1, 1]))) τ)
 | e => K e (qXG ((cxF T (OrL.k [(84, qJW js ms n m)]) 60 45 (ntmF T 45)).T.hint (cxF T (OrL.k [(84, qJW js ms n m)]) 60 45 (ntmF T 45)).me (jY (yQ T 45 [0, 1, 0, 1, 1]))) τ)) (hQ js ms n m i) =
 (bif (decide (i < (n : Int))) then (bif (gEq (.lf n (fJ js)) (.lf n (fJ js)) && (inB i n && decide (n ≤ 50))) then (bif (!decide ((jErr js n (i).toNat) = 0)) then (K .ret ⟨[(1, .p 1 0), (2, .v (.n .i64 (jErr js n (i).toNat)))], [(1, .blk [.v (.lf n (fJ js)), .v (.lf m (fM ms))])]⟩)
 else (G (hQ js ms n m (IntKind.i64.wrap (i + 1)))))
 else none)
 else (K (.exit 0) ⟨[(1, .p 1 0)], [(1, .blk [.v (.lf n (fJ js)), .v (.lf m (fM ms))])]⟩)) := by kernel_rfl
def rQ (js : Nat → J) (ms : Nat → Ms) (n m : Nat) (e : Int) : St := ⟨[(1, .p 1 0), (2, .v (.n .i64 e))], [(1, .blk [.v (.lf n (fJ js)), .v (.lf m (fM ms))])]⟩
def oQ (js : Nat → J) (ms : Nat → Ms) (n m : Nat) : St := ⟨[(1, .p 1 0)], [(1, .blk [.v (.lf n (fJ js)), .v (.lf m (fM ms))])]⟩
theorem lpQ (K : Cont) (js : Nat → J) (ms : Nat → Ms) (n m : Nat) (hn : n ≤ 10) : ∀ (k p q : Nat), p + k = n → k < q → LF 60 (cxF T (OrL.k [(84, qJW js ms n m)]) 60 45 (ntmF T 45)) (ckF T (OrL.k [(84, qJW js ms n m)]) 60) (yQ T 45 [0, 1, 0, 1, 1]) ((cxF T (OrL.k [(84, qJW js ms n m)]) 60 45 (ntmF T 45)).T.hint (cxF T (OrL.k [(84, qJW js ms n m)]) 60 45 (ntmF T 45)).me (jY (yQ T 45 [0, 1, 0, 1, 1]))) K q (hQ js ms n m p) = (bif decide (jE js n k p = 0) then (K (.exit 0) (oQ js ms n m)) else (K .ret (rQ js ms n m (jE js n k p))))
 | 0, p, q + 1, hp, hq => by
  refine (rdQ (fun σ => LF 60 (cxF T (OrL.k [(84, qJW js ms n m)]) 60 45 (ntmF T 45)) (ckF T (OrL.k [(84, qJW js ms n m)]) 60) (yQ T 45 [0, 1, 0, 1, 1]) ((cxF T (OrL.k [(84, qJW js ms n m)]) 60 45 (ntmF T 45)).T.hint (cxF T (OrL.k [(84, qJW js ms n m)]) 60 45 (ntmF T 45)).me (jY (yQ T 45 [0, 1, 0, 1, 1]))) K q σ) K js ms n m p).trans ?_
  rw [decide_eq_false (show ¬ (p : Int) < (n : Int) by omega)]
  rfl
 | k + 1, p, q + 1, hp, hq => by
  refine (rdQ (fun σ => LF 60 (cxF T (OrL.k [(84, qJW js ms n m)]) 60 45 (ntmF T 45)) (ckF T (OrL.k [(84, qJW js ms n m)]) 60) (yQ T 45 [0, 1, 0, 1, 1]) ((cxF T (OrL.k [(84, qJW js ms n m)]) 60 45 (ntmF T 45)).T.hint (cxF T (OrL.k [(84, qJW js ms n m)]) 60 45 (ntmF T 45)).me (jY (yQ T 45 [0, 1, 0, 1, 1]))) K q σ) K js ms n m p).trans ?_
  rw [decide_eq_true (show (p : Int) < (n : Int) by omega), qYU (show p < n by omega), qWV (by omega), lpQ K js ms n m hn k (p + 1) q (by omega) (by omega), toN, gEq_self, decide_eq_true (show n ≤ 50 by omega)]
  by_cases hq : jErr js n p = 0
  ·simp only [jE, decide_eq_true hq, cond_true, cond_false, Bool.not_true, Bool.and_self]
  ·simp only [jE, decide_eq_false hq, cond_true, cond_false, Bool.not_false, Bool.and_self]
   rfl
def hM (js : Nat → J) (ms : Nat → Ms) (n m : Nat) (i : Int) : St := ⟨[(1, .p 1 0), (5, .v (.n .i64 i))], [(1, .blk [.v (.lf n (fJ js)), .v (.lf m (fM ms))])]⟩
def rM (js : Nat → J) (ms : Nat → Ms) (n m : Nat) (i : Int) : St := ⟨[(2, .v (.n .i64 808))], []⟩
def oM (js : Nat → J) (ms : Nat → Ms) (n m : Nat) : St := ⟨[], []⟩
def mTr {α : Type} (n : Nat) (q : Ms) (a b : α) : α := (bif (decide (q.link < 0)) then b else (bif (decide ((n : Int) ≤ q.link)) then b else (bif (decide (1 ≤ q.mass)) then (bif (decide (q.mass ≤ 65536)) then (bif (decide (q.p.x < (-4194304))) then b else (bif (decide (4194304 < q.p.x)) then b else (bif (decide (q.p.y < (-4194304))) then b else (bif (decide (4194304 < q.p.y)) then b else (bif (decide (q.p.z < (-4194304))) then b else (bif (decide (4194304 < q.p.z)) then b else a)))))) else b) else b)))
theorem mTr_eq {α : Type} (n : Nat) (q : Ms) (a b : α) : mTr n q a b = bif mokB n q then a else b := by
 unfold mTr mokB
 by_cases h : MOK n q
 ·have h' := h
  obtain ⟨⟨h1, h2⟩, ⟨h3, h4⟩, ⟨h5, h6⟩, ⟨h7, h8⟩, h9, h10⟩ := h'
  rw [decide_eq_true h]
  simp only [cond_true]
  simp only [Bool.cond_eq_ite, decide_eq_true_eq]
  repeat' split
  all_goals first | rfl | (exfalso; omega)
 ·rw [decide_eq_false h]
  unfold MOK at h
  simp only [cond_false]
  simp only [Bool.cond_eq_ite, decide_eq_true_eq]
  repeat' split
  all_goals first | rfl | (exfalso; omega) | contradiction
set_option maxRecDepth 100000 in
theorem rdM (G : St → Option (Ret × Mem)) (K : Cont) (js : Nat → J) (ms : Nat → Ms) (n m : Nat) (i : Int) : runCK 60 (cxF T (OrL.k [(84, qJW js ms n m)]) 60 45 (ntmF T 45)) (ckF T (OrL.k [(84, qJW js ms n m)]) 60) (yQ T 45 [0, 1, 0, 1, 1, 1, 1]) (fun e τ => match e with
 | .normal => G (prune ((cxF T (OrL.k [(84, qJW js ms n m)]) 60 45 (ntmF T 45)).T.hint (cxF T (OrL.k [(84, qJW js ms n m)]) 60 45 (ntmF T 45)).me (jY (yQ T 45 [0, 1, 0, 1, 1, 1, 1]))) τ)
 | e => K e (qXG ((cxF T (OrL.k [(84, qJW js ms n m)]) 60 45 (ntmF T 45)).T.hint (cxF T (OrL.k [(84, qJW js ms n m)]) 60 45 (ntmF T 45)).me (jY (yQ T 45 [0, 1, 0, 1, 1, 1, 1]))) τ)) (hM js ms n m i) =
 bif decide (i < (m : Int)) then (bif inB i m then mTr n (ms i.toNat) (G (hM js ms n m (IntKind.i64.wrap (i + 1)))) (K .ret (rM js ms n m 0)) else none) else (K (.exit 2) (oM js ms n m)) := by kernel_rfl
theorem lpM (K : Cont) (js : Nat → J) (ms : Nat → Ms) (n m : Nat) (hm : m ≤ 1000) : ∀ (k p q : Nat), p + k = m → k < q → LF 60 (cxF T (OrL.k [(84, qJW js ms n m)]) 60 45 (ntmF T 45)) (ckF T (OrL.k [(84, qJW js ms n m)]) 60) (yQ T 45 [0, 1, 0, 1, 1, 1, 1]) ((cxF T (OrL.k [(84, qJW js ms n m)]) 60 45 (ntmF T 45)).T.hint (cxF T (OrL.k [(84, qJW js ms n m)]) 60 45 (ntmF T 45)).me (jY (yQ T 45 [0, 1, 0, 1, 1, 1, 1]))) K q (hM js ms n m p) = bif mAll ms n k p then (K (.exit 2) (oM js ms n m)) else (K .ret (rM js ms n m 0))
 | 0, p, q + 1, hp, hq => by
  refine (rdM (fun σ => LF 60 (cxF T (OrL.k [(84, qJW js ms n m)]) 60 45 (ntmF T 45)) (ckF T (OrL.k [(84, qJW js ms n m)]) 60) (yQ T 45 [0, 1, 0, 1, 1, 1, 1]) ((cxF T (OrL.k [(84, qJW js ms n m)]) 60 45 (ntmF T 45)).T.hint (cxF T (OrL.k [(84, qJW js ms n m)]) 60 45 (ntmF T 45)).me (jY (yQ T 45 [0, 1, 0, 1, 1, 1, 1]))) K q σ) K js ms n m p).trans ?_
  rw [decide_eq_false (show ¬ (p : Int) < (m : Int) by omega)]
  rfl
 | k + 1, p, q + 1, hp, hq => by
  refine (rdM (fun σ => LF 60 (cxF T (OrL.k [(84, qJW js ms n m)]) 60 45 (ntmF T 45)) (ckF T (OrL.k [(84, qJW js ms n m)]) 60) (yQ T 45 [0, 1, 0, 1, 1, 1, 1]) ((cxF T (OrL.k [(84, qJW js ms n m)]) 60 45 (ntmF T 45)).T.hint (cxF T (OrL.k [(84, qJW js ms n m)]) 60 45 (ntmF T 45)).me (jY (yQ T 45 [0, 1, 0, 1, 1, 1, 1]))) K q σ) K js ms n m p).trans ?_
  rw [decide_eq_true (show (p : Int) < (m : Int) by omega), qYU (show p < m by omega), qWV (by omega), lpM K js ms n m hm k (p + 1) q (by omega) (by omega), toN, mTr_eq]
  by_cases hq : mokB n (ms p) = true
  ·simp only [mAll, hq, cond_true, Bool.true_and]
  ·rw [Bool.not_eq_true] at hq
   simp only [mAll, hq, cond_true, cond_false, Bool.false_and]
set_option maxRecDepth 100000 in
theorem pxQ (js : Nat → J) (ms : Nat → Ms) (n m : Nat) : runKL T (OrL.k [(84, qJW js ms n m)]) (qQU [([0, 1, 0, 1, 1], sumAt (hQ js ms n m 0) (fun K => bif decide (10 < (n : Int)) then none else (bif decide (jE js n n 0 = 0) then (K (.exit 0) (oQ js ms n m)) else (K .ret (rQ js ms n m (jE js n n 0)))))), ([0, 1, 0, 1, 1, 1, 1], sumAt (hM js ms n m 0) (fun K => bif decide (32 < (m : Int)) then none else (bif mAll ms n m 0 then (K (.exit 2) (oM js ms n m)) else (K .ret (rM js ms n m 0)))))]) 60 45 [(.a [.lf n (fJ js), .lf m (fM ms)])] =
 bif decide ((n : Int) < 1) then some (.v (.n .i64 801), []) else (bif decide (10 < (n : Int)) then some (.v (.n .i64 801), []) else (bif gSt (hQ js ms n m 0) (hQ js ms n m 0) then (bif decide (10 < (n : Int)) then none else (bif decide (jE js n n 0 = 0) then (bif decide (32 < (m : Int)) then some (.v (.n .i64 808), []) else (bif gSt (hM js ms n m 0) (hM js ms n m 0) then (bif decide (32 < (m : Int)) then none else (bif mAll ms n m 0 then some (.v (.n .i64 0), []) else some (.v (.n .i64 808), []))) else none)) else some (.v (.n .i64 (jE js n n 0)), []))) else none)) := by kernel_rfl
theorem snd_crf (js : Nat → J) (ms : Nat → Ms) (n m : Nat) : SndA1 Tryz.prog 45 [(.a [.lf n (fJ js), .lf m (fM ms)])] (.v (.n .i64 (rErr js ms n m))) := by
 refine uZ (N := 60) (LO := qQU [([0, 1, 0, 1, 1], sumAt (hQ js ms n m 0) (fun K => bif decide (10 < (n : Int)) then none else (bif decide (jE js n n 0 = 0) then (K (.exit 0) (oQ js ms n m)) else (K .ret (rQ js ms n m (jE js n n 0)))))), ([0, 1, 0, 1, 1, 1, 1], sumAt (hM js ms n m 0) (fun K => bif decide (32 < (m : Int)) then none else (bif mAll ms n m 0 then (K (.exit 2) (oM js ms n m)) else (K .ret (rM js ms n m 0)))))]) tabOk mixed (OrL.ok (l := [(84, qJW js ms n m)]) ⟨ok_o_cjr js ms n m, trivial⟩) (fun p S hp => ?_) ?_
 ·refine qQK (L := yQ T 45) (l := [([0, 1, 0, 1, 1], sumAt (hQ js ms n m 0) (fun K => bif decide (10 < (n : Int)) then none else (bif decide (jE js n n 0 = 0) then (K (.exit 0) (oQ js ms n m)) else (K .ret (rQ js ms n m (jE js n n 0)))))), ([0, 1, 0, 1, 1, 1, 1], sumAt (hM js ms n m 0) (fun K => bif decide (32 < (m : Int)) then none else (bif mAll ms n m 0 then (K (.exit 2) (oM js ms n m)) else (K .ret (rM js ms n m 0)))))]) (show AllP _ [([0, 1, 0, 1, 1], sumAt (hQ js ms n m 0) (fun K => bif decide (10 < (n : Int)) then none else (bif decide (jE js n n 0 = 0) then (K (.exit 0) (oQ js ms n m)) else (K .ret (rQ js ms n m (jE js n n 0)))))), ([0, 1, 0, 1, 1, 1, 1], sumAt (hM js ms n m 0) (fun K => bif decide (32 < (m : Int)) then none else (bif mAll ms n m 0 then (K (.exit 2) (oM js ms n m)) else (K .ret (rM js ms n m 0)))))] from ⟨qZX fun K r hr => ?_, qZX fun K r hr => ?_, trivial⟩) p S hp
  ·cases hq : decide (10 < (n : Int)) with
   | true => rw [hq] at hr; cases hr
   | false =>
    rw [hq] at hr
    have h10 := of_decide_eq_false hq
    exact (lpQ K js ms n m (by omega) n 0 60 (by omega) (by omega)).trans hr
  ·cases hq : decide (32 < (m : Int)) with
   | true => rw [hq] at hr; cases hr
   | false =>
    rw [hq] at hr
    have h32 := of_decide_eq_false hq
    exact (lpM K js ms n m (by omega) m 0 60 (by omega) (by omega)).trans hr
 ·refine (pxQ js ms n m).trans ?_
  unfold rErr
  rw [qZV, qZV, show decide ((n : Int) < 1) = decide ((n : Int) = 0) from decide_eq_decide.2 (by omega)]
  by_cases h0 : (n : Int) = 0
  ·rw [decide_eq_true h0]; rfl
  rw [decide_eq_false h0]
  by_cases h10 : 10 < (n : Int)
  ·rw [decide_eq_true h10]; rfl
  rw [decide_eq_false h10]
  by_cases hj : jE js n n 0 = 0
  ·rw [decide_eq_true hj]
   by_cases h32 : 32 < (m : Int)
   ·rw [decide_eq_true h32]; rfl
   rw [decide_eq_false h32]
   cases mAll ms n m 0 <;> rfl
  ·rw [decide_eq_false hj]; rfl
end Go.Proofs.YtmbnpjpggccefaaGreat.Nc
namespace Go.Rx
open Go.RowKit Go.Sx
def runAll {β : Type} (good : Nat → Bool) (KX : β) (KR : Nat → β) : Nat → Nat → β
 | 0, _ => KX
 | k + 1, p => bif good p then runAll good KX KR k (p + 1) else KR p
def allN (good : Nat → Bool) : Nat → Nat → Bool
 | 0, _ => true
 | k + 1, p => good p && allN good k (p + 1)
theorem runAll_all {β : Type} (good : Nat → Bool) (x y : β) : ∀ k p, runAll good x (fun _ => y) k p = bif allN good k p then x else y
 | 0, _ => rfl
 | k + 1, p => by
  simp only [runAll, allN, runAll_all good x y k (p + 1)]
  cases good p <;> rfl
theorem allN_iff {good : Nat → Bool} : ∀ {k p : Nat}, allN good k p = true ↔ ∀ j, p ≤ j → j < p + k → good j = true
 | 0, p => ⟨fun _ j h1 h2 => by omega, fun _ => rfl⟩
 | k + 1, p => by
  simp only [allN, Bool.and_eq_true, allN_iff (k := k)]
  exact ⟨fun h j h1 h2 => by
   rcases Nat.eq_or_lt_of_le h1 with e | e
   ·exact e ▸ h.1
   ·exact h.2 j e (by omega), fun h => ⟨h p (Nat.le_refl _) (by omega), fun j h1 h2 => h j (by omega) (by omega)⟩⟩
theorem allN_congr {g g' : Nat → Bool} : ∀ {k p : Nat}, (∀ j, p ≤ j → j < p + k → g j = g' j) → allN g k p = allN g' k p
 | 0, _, _ => rfl
 | k + 1, p, h => by simp only [allN, h p (Nat.le_refl _) (by omega), allN_congr (k := k) (p := p + 1) fun j h1 h2 => h j (by omega) (by omega)]
def firstI (good : Nat → Bool) : Nat → Nat → Nat
 | 0, p => p
 | k + 1, p => bif good p then firstI good k (p + 1) else p
theorem runAll_first {β : Type} (good : Nat → Bool) (x : β) (y : Nat → β) : ∀ k p, runAll good x y k p = bif allN good k p then x else y (firstI good k p)
 | 0, _ => rfl
 | k + 1, p => by
  simp only [runAll, allN, firstI, runAll_first good x y k (p + 1)]
  cases good p <;> rfl
def stepR (N : Nat) (C : Cx) (cK : CallK) (x : Code) (h : Hint) (K : Cont) (G : St → Option (Ret × Mem)) (σ : St) : Option (Ret × Mem) := runCK N C cK x (fun e τ => match e with
 | .normal => G (prune h τ)
 | e => K e (qXG h τ)) σ
theorem LF_succ {N : Nat} {C : Cx} {cK : CallK} {x : Code} {h : Hint} {K : Cont} {n : Nat} {σ : St} : LF N C cK x h K (n + 1) σ = stepR N C cK x h K (fun σ => LF N C cK x h K n σ) σ := rfl
theorem zZZ {N : Nat} {C : Cx} {cK : CallK} {x : Code} {h : Hint} {K : Cont} (hd : Int → St) (good : Nat → Bool) {c : Nat} (KX : Option (Ret × Mem)) (KR : Nat → Option (Ret × Mem))
  (r1 : ∀ G (i : Nat), i < c → stepR N C cK x h K G (hd (i : Int)) = bif good i then G (hd ((i + 1 : Nat) : Int)) else KR i)
  (r2 : ∀ G, stepR N C cK x h K G (hd (c : Int)) = KX) : ∀ (k p q : Nat), p + k = c → k < q → LF N C cK x h K q (hd (p : Int)) = runAll good KX KR k p
 | 0, p, q + 1, hp, _ => by
  rw [LF_succ, show p = c by omega]
  exact r2 _
 | k + 1, p, q + 1, hp, hq => by
  rw [LF_succ, r1 _ p (by omega), zZZ hd good KX KR r1 r2 k (p + 1) q (by omega) (by omega)]
  rfl
theorem lp_app {N : Nat} {C : Cx} {cK : CallK} {x : Code} {h : Hint} {K : Cont} (hd : Int → List (List PV) → St) (g : Nat → List PV) {c : Nat} (KX : List (List PV) → Option (Ret × Mem))
  (r1 : ∀ G (i : Nat) rows, i < c → rows.length = i → stepR N C cK x h K G (hd (i : Int) rows) = G (hd ((i + 1 : Nat) : Int) (rows ++ [g i])))
  (r2 : ∀ G rows, rows.length = c → stepR N C cK x h K G (hd (c : Int) rows) = KX rows) : ∀ (k p q : Nat) (rows : List (List PV)), rows.length = p → p + k = c → k < q → LF N C cK x h K q (hd (p : Int) rows) = KX (rows ++ (List.range' p k).map g)
 | 0, p, q + 1, rows, hl, hp, _ => by
  rw [LF_succ, show p = c by omega, r2 _ rows (by omega)]
  simp
 | k + 1, p, q + 1, rows, hl, hp, hq => by
  rw [LF_succ, r1 _ p rows (by omega) hl, lp_app hd g KX r1 r2 k (p + 1) q (rows ++ [g p]) (by rw [List.length_append, hl]; rfl) (by omega) (by omega)]
  rw [List.range'_succ, List.map_cons, List.append_assoc]
  rfl
theorem rng0 (n : Nat) (g : Nat → List PV) : [] ++ (List.range' 0 n).map g = (List.range n).map g := by rw [List.nil_append, List.range_eq_range']
theorem rows_fn {α : Type} (d : α) (f : α → List PV) (l : List α) : l.map f = (List.range l.length).map fun i => f (l.getD i d) := by
 refine List.ext_getElem? fun i => ?_
 rw [List.getElem?_map, List.getElem?_map]
 by_cases h : i < l.length
 ·rw [List.getElem?_range h, List.getElem?_eq_getElem h]
  simp [List.getD_eq_getElem?_getD, h]
 ·rw [List.getElem?_eq_none (by omega), List.getElem?_eq_none (by simp; omega)]
  rfl
theorem snd_args {P : Program} {f : Nat} {ps ps' : List PV} {r : Ret} (hs : ∀ F w vals, Al (RP F w) ps' vals → Al (RP F w) ps vals) (h : SndA1 P f ps r) : SndA1 P f ps' r :=
 ⟨h.1, fun w F vals hF hal => h.2 w F vals hF (hs F w vals hal)⟩
theorem snd_res {P : Program} {f : Nat} {ps : List PV} {x y : PV} (hs : ∀ F w v, RP F w x v → RP F w y v) (h : SndA1 P f ps (.v x)) : SndA1 P f ps (.v y) :=
 ⟨h.1, fun w F vals hF hal => (h.2 w F vals hF hal).mono fun _ w' ⟨v, F', he, hg, f1, f2, hr⟩ => ⟨v, F', he, hg, f1, f2, hs F' w' v hr⟩⟩
theorem rp_lf_l {F : Nat → Prop} {w : World} {n : Nat} {f : Nat → List PV} {rows : List (List PV)} {v : Value} (e : rows = (List.range n).map f) (h : RP F w (.l rows) v) : RP F w (.lf n f) v := .lf n f v (e ▸ h)
theorem rp_l_lf {F : Nat → Prop} {w : World} {n : Nat} {f : Nat → List PV} {rows : List (List PV)} {v : Value} (e : rows = (List.range n).map f) (h : RP F w (.lf n f) v) : RP F w (.l rows) v := by
 cases h with
 | lf _ _ _ h => exact e ▸ h
def Same (x y : PV) : Prop := ∀ F w v, RP F w x v → RP F w y v
theorem Same.refl (x : PV) : Same x x := fun _ _ _ h => h
theorem Same.lf {n : Nat} {f : Nat → List PV} {rows : List (List PV)} (e : rows = (List.range n).map f) : Same (.l rows) (.lf n f) := fun _ _ _ => rp_lf_l e
theorem Same.l {n : Nat} {f : Nat → List PV} {rows : List (List PV)} (e : rows = (List.range n).map f) : Same (.lf n f) (.l rows) := fun _ _ _ => rp_l_lf e
def Sames : List PV → List PV → Prop
 | [], [] => True
 | x :: xs, y :: ys => Same x y ∧ Sames xs ys
 | _, _ => False
theorem Sames.al {F : Nat → Prop} {w : World} : ∀ {xs ys : List PV} {vs : List Value}, Sames xs ys → Al (RP F w) xs vs → Al (RP F w) ys vs
 | [], [], _, _, h => h
 | x :: xs, y :: ys, vs, hs, h => by
  obtain ⟨v, vs, rfl, h1, h2⟩ := qYK h
  exact qWW (hs.1 F w v h1) (Sames.al hs.2 h2)
 | [], _ :: _, _, h, _ => h.elim
 | _ :: _, [], _, h, _ => h.elim
theorem Same.a {xs ys : List PV} (h : Sames xs ys) : Same (.a xs) (.a ys) := fun F w v hv => by
 cases hv with
 | a _ vs hl h1 hh =>
  have := Sames.al h (show Al (RP F w) xs vs from ⟨hl, hh⟩)
  exact .a ys vs this.1 h1 this.2
theorem Same.t {xs ys : List PV} (h : Sames xs ys) : Same (.t xs) (.t ys) := fun F w v hv => by
 cases hv with
 | t _ vs hl hh =>
  have := Sames.al h (show Al (RP F w) xs vs from ⟨hl, hh⟩)
  exact .t ys vs this.1 this.2
theorem snd_same {P : Program} {f : Nat} {ps ps' : List PV} {x y : PV} (ha : Sames ps' ps) (hr : Same x y) (h : SndA1 P f ps (.v x)) : SndA1 P f ps' (.v y) :=
 snd_res hr (snd_args (fun _ _ _ => ha.al) h)
theorem snd_own {P : Program} {f e sz : Nat} {ps : List PV} {rows : List (List PV)} (h : SndA1 P f ps (.ow e sz rows)) : SndA1 P f ps (.v (.l rows)) := by
 refine ⟨h.1, fun w F vals hF hal => (h.2 w F vals hF hal).mono ?_⟩
 rintro en w' ⟨v, F', he, hg, f1, f2, hr⟩
 obtain ⟨F2, f3, f4, hx⟩ := hr.pv (x := .l rows) rfl
 refine ⟨v, F2, he, hg, fun k hk => f3 k (f1 k hk), fun k hk => ?_, hx⟩
 rcases f4 k hk with h | h
 ·exact f2 k h
 ·exact .inr h
end Go.Rx
namespace Go.Proofs.YtmbnpjpggccefaaGreat.Nx
open Go.Rx Rt Go.Sx Go.RowKit Od Ov Pc Na Nb Nc
noncomputable def o_iWithin : List PV → Option (Bool × Ret) := fun ps => match ps with
 | [.a a', .a b'] => (ivD a').bind fun a => (ivD b').bind fun b => some (true, .v (.b (Iv.within a b)))
 | _ => none
theorem ok_iWithin : OneOk Tryz.prog 91 o_iWithin := by
 intro ps r h
 unfold o_iWithin at h
 split at h
 ·simp only [Option.bind_eq_some_iff, Option.some.injEq, Prod.mk.injEq] at h
  obtain ⟨a, ha, b, hb, hg, rfl⟩ := h
  rw [qJU ha]
  rw [qJU hb]
  exact yJ (zZ Tryz.func91 (by kernel_rfl) (by kernel_rfl)) rfl rfl (fun w => iWithin _ _ _ _ w)
 ·cases h
noncomputable def L7 : OrL := (91, o_iWithin) :: L6
theorem L7_ok : AllP (fun x : Nat × (List PV → Option (Bool × Ret)) => OneOk Tryz.prog x.1 x.2) L7 := ⟨ok_iWithin, L6_ok⟩
noncomputable def o_iValid : List PV → Option (Bool × Ret) := fun ps => match ps with
 | [.a a'] => (ivD a').bind fun a => some (true, .v (.b (Iv.valid a)))
 | _ => none
theorem ok_iValid : OneOk Tryz.prog 107 o_iValid := by
 intro ps r h
 unfold o_iValid at h
 split at h
 ·simp only [Option.bind_eq_some_iff, Option.some.injEq, Prod.mk.injEq] at h
  obtain ⟨a, ha, hg, rfl⟩ := h
  rw [qJU ha]
  exact yJ (zZ Tryz.func107 (by kernel_rfl) (by kernel_rfl)) rfl rfl (fun w => zZG _ _ w)
 ·cases h
noncomputable def L8 : OrL := (107, o_iValid) :: L7
theorem L8_ok : AllP (fun x : Nat × (List PV → Option (Bool × Ret)) => OneOk Tryz.prog x.1 x.2) L8 := ⟨ok_iValid, L7_ok⟩
noncomputable def o_rWithin : List PV → Option (Bool × Ret) := fun ps => match ps with
 | [.a a', .a b'] => (ivD a').bind fun a => (ivD b').bind fun b => some (true, .v (.b (Iv.within a b)))
 | _ => none
theorem ok_rWithin : OneOk Tryz.prog 159 o_rWithin := by
 intro ps r h
 unfold o_rWithin at h
 split at h
 ·simp only [Option.bind_eq_some_iff, Option.some.injEq, Prod.mk.injEq] at h
  obtain ⟨a, ha, b, hb, hg, rfl⟩ := h
  rw [qJU ha]
  rw [qJU hb]
  exact yJ (zZ Tryz.func159 (by kernel_rfl) (by kernel_rfl)) rfl rfl (fun w => rWithin _ _ _ _ w)
 ·cases h
noncomputable def L9 : OrL := (159, o_rWithin) :: L8
theorem L9_ok : AllP (fun x : Nat × (List PV → Option (Bool × Ret)) => OneOk Tryz.prog x.1 x.2) L9 := ⟨ok_rWithin, L8_ok⟩
noncomputable def o_rValid : List PV → Option (Bool × Ret) := fun ps => match ps with
 | [.a a'] => (ivD a').bind fun a => some (true, .v (.b (Iv.valid a)))
 | _ => none
theorem ok_rValid : OneOk Tryz.prog 147 o_rValid := by
 intro ps r h
 unfold o_rValid at h
 split at h
 ·simp only [Option.bind_eq_some_iff, Option.some.injEq, Prod.mk.injEq] at h
  obtain ⟨a, ha, hg, rfl⟩ := h
  rw [qJU ha]
  exact yJ (zZ Tryz.func147 (by kernel_rfl) (by kernel_rfl)) rfl rfl (fun w => zQQ _ _ w)
 ·cases h
noncomputable def L10 : OrL := (147, o_rValid) :: L9
theorem L10_ok : AllP (fun x : Nat × (List PV → Option (Bool × Ret)) => OneOk Tryz.prog x.1 x.2) L10 := ⟨ok_rValid, L9_ok⟩
def fB (bx : Nat → Iv) : Nat → List PV := fun v => [.n .i64 (bx v).lo, .n .i64 (bx v).hi]
set_option maxRecDepth 100000 in
theorem tr_cIn (nm : ByteArray) (kind par ox oy oz jlo jhi we spd acc tq a0 a1 : Int) : runK T (OrL.k L10) 60 90 [.a [.s nm, .n .i64 kind, .n .i64 par, .n .i64 ox, .n .i64 oy, .n .i64 oz, .n .i64 jlo, .n .i64 jhi, .n .i64 we, .n .i64 spd, .n .i64 acc, .n .i64 tq], .a [.n .i64 a0, .n .i64 a1]] =
 some (.v (.b (Iv.within ⟨a0, a1⟩ ⟨jlo, jhi⟩)), []) := by
 refine (by kernel_rfl : _ = bif Iv.within ⟨a0, a1⟩ ⟨jlo, jhi⟩ then some (.v (.b true), []) else some (.v (.b false), [])).trans ?_
 cases Iv.within ⟨a0, a1⟩ ⟨jlo, jhi⟩ <;> rfl
noncomputable def o_cIn : List PV → Option (Bool × Ret) := fun ps => match ps with
 | [.a [.s nm, .n .i64 kind, .n .i64 par, .n .i64 ox, .n .i64 oy, .n .i64 oz, .n .i64 jlo, .n .i64 jhi, .n .i64 we, .n .i64 spd, .n .i64 acc, .n .i64 tq], .a a'] => (ivD a').bind fun a => some (true, .v (.b (Iv.within a ⟨jlo, jhi⟩)))
 | _ => none
theorem ok_cIn : OneOk Tryz.prog 90 o_cIn := by
 intro ps r h
 unfold o_cIn at h
 split at h
 ·simp only [Option.bind_eq_some_iff, Option.some.injEq, Prod.mk.injEq] at h
  obtain ⟨a, ha, hg, rfl⟩ := h
  rw [qJU ha]
  exact yV (N := 60) tabOk mixed (OrL.ok L10_ok) (tr_cIn _ _ _ _ _ _ _ _ _ _ _ _ _ _)
 ·cases h
noncomputable def L11 : OrL := (90, o_cIn) :: L10
theorem L11_ok : AllP (fun x : Nat × (List PV → Option (Bool × Ret)) => OneOk Tryz.prog x.1 x.2) L11 := ⟨ok_cIn, L10_ok⟩
def hE (js : Nat → J) (bx : Nat → Iv) (n k : Nat) (i : Int) : St := ⟨[(1, .v (.lf k (fB bx))), (2, .v (.f 90 [] [])), (14, .v (.lf n (fJ js))), (15, .v (.n .i64 (n : Int))), (16, .v (.n .i64 i))], []⟩
set_option maxRecDepth 100000 in
theorem rdE (G : St → Option (Ret × Mem)) (K : Cont) (js : Nat → J) (bx : Nat → Iv) (n k : Nat) (i : Int) : stepR 60 (cxF T (OrL.k L11) 60 89 (ntmF T 89)) (ckF T (OrL.k L11) 60) (yQ T 89 [0, 1, 0, 1, 1]) ((cxF T (OrL.k L11) 60 89 (ntmF T 89)).T.hint (cxF T (OrL.k L11) 60 89 (ntmF T 89)).me (jY (yQ T 89 [0, 1, 0, 1, 1]))) K G (hE js bx n k i) =
 (bif (decide (i < (n : Int))) then (bif (inB i n) then (bif (inB i k) then (bif Iv.within (bx (i).toNat) ⟨((js (i).toNat).lo), ((js (i).toNat).hi)⟩ then (G (hE js bx n k (IntKind.i64.wrap (i + 1))))
 else (K .ret ⟨[(6, .v (.b false))], []⟩))
 else none)
 else none)
 else (K (.exit 0) ⟨[], []⟩)) := by kernel_rfl
theorem lpE (K : Cont) (js : Nat → J) (bx : Nat → Iv) (n k : Nat) (hn : n ≤ 50) (hk : n = k) : LF 60 (cxF T (OrL.k L11) 60 89 (ntmF T 89)) (ckF T (OrL.k L11) 60) (yQ T 89 [0, 1, 0, 1, 1]) ((cxF T (OrL.k L11) 60 89 (ntmF T 89)).T.hint (cxF T (OrL.k L11) 60 89 (ntmF T 89)).me (jY (yQ T 89 [0, 1, 0, 1, 1]))) K 60 (hE js bx n k 0) = bif (allN (fun i : Nat => Iv.within (bx i) ⟨(js i).lo, (js i).hi⟩) n 0) then (K (.exit 0) ⟨[], []⟩) else (K .ret ⟨[(6, .v (.b false))], []⟩) := by
 refine (zZZ (c := n) (hE js bx n k) (fun i : Nat => Iv.within (bx i) ⟨(js i).lo, (js i).hi⟩) (K (.exit 0) ⟨[], []⟩) (fun i : Nat => (K .ret ⟨[(6, .v (.b false))], []⟩)) (fun G i hi => ?_) (fun G => ?_) n 0 60 (by omega) (by omega)).trans (runAll_all _ _ _ _ _)
 ·refine (rdE G K js bx n k i).trans ?_
  rw [decide_eq_true (show (i : Int) < (n : Int) by omega), qWV (by omega), qYU (show i < n by omega), qYU (show i < k by omega), toN]
  rfl
 ·refine (rdE G K js bx n k n).trans ?_
  rw [decide_eq_false (show ¬ (n : Int) < (n : Int) by omega)]
  rfl
def insB (js : Nat → J) (bx : Nat → Iv) (n k : Nat) : Bool := decide ((n : Int) = (k : Int)) && (allN (fun i : Nat => Iv.within (bx i) ⟨(js i).lo, (js i).hi⟩) n 0)
set_option maxRecDepth 100000 in
theorem pxevery (js : Nat → J) (bx : Nat → Iv) (n k : Nat) : runKL T (OrL.k L11) (qQU [([0, 1, 0, 1, 1], sumAt (hE js bx n k 0) (fun K => (bif (decide ((n : Int) = (k : Int)) && decide (n ≤ 50)) then (bif (allN (fun i : Nat => Iv.within (bx i) ⟨(js i).lo, (js i).hi⟩) n 0) then (K (.exit 0) ⟨[], []⟩) else (K .ret ⟨[(6, .v (.b false))], []⟩)) else none)))]) 60 89 [.lf n (fJ js), .lf k (fB bx), .f 90 [] []] =
 (bif (!decide ((n : Int) = (k : Int))) then some (.v (.b false), [])
 else (bif (gSt (hE js bx n k 0) (hE js bx n k 0)) then (bif (decide ((n : Int) = (k : Int)) && decide (n ≤ 50)) then (bif (allN (fun i : Nat => Iv.within (bx i) ⟨(js i).lo, (js i).hi⟩) n 0) then some (.v (.b true), [])
 else some (.v (.b false), []))
 else none)
 else none)) := by kernel_rfl
theorem snd_every (js : Nat → J) (bx : Nat → Iv) (n k : Nat) (hn : n ≤ 50) : SndA1 Tryz.prog 89 [.lf n (fJ js), .lf k (fB bx), .f 90 [] []] (.v (.b (insB js bx n k))) := by
 refine uZ (N := 60) (LO := qQU [([0, 1, 0, 1, 1], sumAt (hE js bx n k 0) (fun K => (bif (decide ((n : Int) = (k : Int)) && decide (n ≤ 50)) then (bif (allN (fun i : Nat => Iv.within (bx i) ⟨(js i).lo, (js i).hi⟩) n 0) then (K (.exit 0) ⟨[], []⟩) else (K .ret ⟨[(6, .v (.b false))], []⟩)) else none)))]) tabOk mixed (OrL.ok (l := L11) L11_ok) (fun p S hp => ?_) ?_
 ·refine qQK (L := yQ T 89) (l := [([0, 1, 0, 1, 1], sumAt (hE js bx n k 0) (fun K => (bif (decide ((n : Int) = (k : Int)) && decide (n ≤ 50)) then (bif (allN (fun i : Nat => Iv.within (bx i) ⟨(js i).lo, (js i).hi⟩) n 0) then (K (.exit 0) ⟨[], []⟩) else (K .ret ⟨[(6, .v (.b false))], []⟩)) else none)))]) (show AllP _ [([0, 1, 0, 1, 1], sumAt (hE js bx n k 0) (fun K => (bif (decide ((n : Int) = (k : Int)) && decide (n ≤ 50)) then (bif (allN (fun i : Nat => Iv.within (bx i) ⟨(js i).lo, (js i).hi⟩) n 0) then (K (.exit 0) ⟨[], []⟩) else (K .ret ⟨[(6, .v (.b false))], []⟩)) else none)))] from ⟨qZX fun K r hr => ?_, trivial⟩) p S hp
  ·obtain ⟨hg, hr⟩ := zG hr
   rw [Bool.and_eq_true] at hg
   have hn := of_decide_eq_true hg.2
   have hk : n = k := by have := of_decide_eq_true hg.1; omega
   exact (lpE K js bx n k hn hk).trans hr
 ·refine (pxevery js bx n k).trans ?_
  unfold insB
  rw [qZV, decide_eq_true hn]
  cases decide ((n : Int) = (k : Int)) <;> cases (allN (fun i : Nat => Iv.within (bx i) ⟨(js i).lo, (js i).hi⟩) n 0) <;> rfl
noncomputable def o_ev (js : Nat → J) (bx : Nat → Iv) (n k : Nat) : List PV → Option (Bool × Ret) := fun ps => some (gEq (.t ps) (.t [.lf n (fJ js), .lf k (fB bx), .f 90 [] []]) && decide (n ≤ 50), .v (.b (insB js bx n k)))
theorem ok_ev (js : Nat → J) (bx : Nat → Iv) (n k : Nat) : OneOk Tryz.prog 89 (o_ev js bx n k) := by
 intro ps q hh
 unfold o_ev at hh
 simp only [Option.some.injEq, Prod.mk.injEq, Bool.and_eq_true] at hh
 obtain ⟨⟨hg, hb⟩, rfl⟩ := hh
 have := zQZ hg
 simp only [PV.t.injEq] at this
 rw [this]
 exact snd_every js bx n k (of_decide_eq_true hb)
theorem rerr_n {js : Nat → J} {ms : Nat → Ms} {n m : Nat} (h : rErr js ms n m = 0) : 1 ≤ n ∧ n ≤ 10 := by
 unfold rErr at h
 by_cases h0 : (n : Int) = 0
 ·rw [decide_eq_true h0] at h; cases h
 by_cases h1 : 10 < (n : Int)
 ·rw [decide_eq_false h0, decide_eq_true h1] at h; cases h
 omega
def pIn (js : Nat → J) (ms : Nat → Ms) (bx : Nat → Iv) (n m k : Nat) : Bool := decide (rErr js ms n m = 0) && insB js bx n k
theorem snd_pIn (js : Nat → J) (ms : Nat → Ms) (bx : Nat → Iv) (n m k : Nat) : SndA1 Tryz.prog 52 [.a [.lf n (fJ js), .lf m (fM ms)], .lf k (fB bx)] (.v (.b (pIn js ms bx n m k))) := by
 refine yV (N := 60) tabOk mixed (OrL.ok (l := [(43, qXH [.a [.lf n (fJ js), .lf m (fM ms)]] (.v (.n .i64 (rErr js ms n m)))), (89, o_ev js bx n k)]) ⟨qVJ (snd_chk js ms n m), ok_ev js bx n k, trivial⟩) ?_
 refine (by kernel_rfl : _ = bif (g1 [.a [.lf n (fJ js), .lf m (fM ms)]]) then (bif (decide ((rErr js ms n m) = 0)) then (bif (g1 [.lf n (fJ js), .lf k (fB bx), .f 90 [] []] && decide (n ≤ 50)) then (bif (insB js bx n k) then some (.v (.b true), [])
 else some (.v (.b false), []))
 else none)
 else some (.v (.b false), []))
 else none).trans ?_
 unfold pIn
 rw [zYZ, zYZ]
 by_cases h : rErr js ms n m = 0
 ·have := rerr_n h
  rw [decide_eq_true h, decide_eq_true (show n ≤ 50 by omega)]
  cases insB js bx n k <;> rfl
 ·rw [decide_eq_false h]; rfl
def hA (bx : Nat → Iv) (k : Nat) (i : Int) : St := ⟨[(0, .v (.lf k (fB bx))), (3, .v (.n .i64 i))], []⟩
set_option maxRecDepth 100000 in
theorem rdA (G : St → Option (Ret × Mem)) (K : Cont) (bx : Nat → Iv) (k : Nat) (i : Int) : stepR 60 (cxF T (OrL.k L11) 60 108 (ntmF T 108)) (ckF T (OrL.k L11) 60) (yQ T 108 [0, 1, 0, 1]) ((cxF T (OrL.k L11) 60 108 (ntmF T 108)).T.hint (cxF T (OrL.k L11) 60 108 (ntmF T 108)).me (jY (yQ T 108 [0, 1, 0, 1]))) K G (hA bx k i) =
 (bif (decide (i < (k : Int))) then (bif (inB i k) then (bif Iv.valid (bx (i).toNat) then (G (hA bx k (IntKind.i64.wrap (i + 1))))
 else (K .ret ⟨[(2, .v (.b false))], []⟩))
 else none)
 else (K (.exit 0) ⟨[], []⟩)) := by kernel_rfl
theorem lpA (K : Cont) (bx : Nat → Iv) (k : Nat) (hk : k ≤ 50) : LF 60 (cxF T (OrL.k L11) 60 108 (ntmF T 108)) (ckF T (OrL.k L11) 60) (yQ T 108 [0, 1, 0, 1]) ((cxF T (OrL.k L11) 60 108 (ntmF T 108)).T.hint (cxF T (OrL.k L11) 60 108 (ntmF T 108)).me (jY (yQ T 108 [0, 1, 0, 1]))) K 60 (hA bx k 0) = bif (allN (fun i : Nat => Iv.valid (bx i)) k 0) then (K (.exit 0) ⟨[], []⟩) else (K .ret ⟨[(2, .v (.b false))], []⟩) := by
 refine (zZZ (c := k) (hA bx k) (fun i : Nat => Iv.valid (bx i)) (K (.exit 0) ⟨[], []⟩) (fun i : Nat => (K .ret ⟨[(2, .v (.b false))], []⟩)) (fun G i hi => ?_) (fun G => ?_) k 0 60 (by omega) (by omega)).trans (runAll_all _ _ _ _ _)
 ·refine (rdA G K bx k i).trans ?_
  rw [decide_eq_true (show (i : Int) < (k : Int) by omega), qWV (by omega), qYU (show i < k by omega), toN]
  cases Iv.valid (bx i) <;> rfl
 ·refine (rdA G K bx k k).trans ?_
  rw [decide_eq_false (show ¬ (k : Int) < (k : Int) by omega)]
  rfl
def allV (bx : Nat → Iv) (k : Nat) : Bool := (allN (fun i : Nat => Iv.valid (bx i)) k 0)
set_option maxRecDepth 100000 in
theorem pxallv (bx : Nat → Iv) (k : Nat) : runKL T (OrL.k L11) (qQU [([0, 1, 0, 1], sumAt (hA bx k 0) (fun K => (bif (decide (k ≤ 50)) then (bif (allN (fun i : Nat => Iv.valid (bx i)) k 0) then (K (.exit 0) ⟨[], []⟩) else (K .ret ⟨[(2, .v (.b false))], []⟩)) else none)))]) 60 108 [.lf k (fB bx)] =
 (bif (gSt (hA bx k 0) (hA bx k 0)) then (bif (decide (k ≤ 50)) then (bif (allN (fun i : Nat => Iv.valid (bx i)) k 0) then some (.v (.b true), [])
 else some (.v (.b false), []))
 else none)
 else none) := by kernel_rfl
theorem snd_allv (bx : Nat → Iv) (k : Nat) (hk : k ≤ 50) : SndA1 Tryz.prog 108 [.lf k (fB bx)] (.v (.b (allV bx k))) := by
 refine uZ (N := 60) (LO := qQU [([0, 1, 0, 1], sumAt (hA bx k 0) (fun K => (bif (decide (k ≤ 50)) then (bif (allN (fun i : Nat => Iv.valid (bx i)) k 0) then (K (.exit 0) ⟨[], []⟩) else (K .ret ⟨[(2, .v (.b false))], []⟩)) else none)))]) tabOk mixed (OrL.ok (l := L11) L11_ok) (fun p S hp => ?_) ?_
 ·refine qQK (L := yQ T 108) (l := [([0, 1, 0, 1], sumAt (hA bx k 0) (fun K => (bif (decide (k ≤ 50)) then (bif (allN (fun i : Nat => Iv.valid (bx i)) k 0) then (K (.exit 0) ⟨[], []⟩) else (K .ret ⟨[(2, .v (.b false))], []⟩)) else none)))]) (show AllP _ [([0, 1, 0, 1], sumAt (hA bx k 0) (fun K => (bif (decide (k ≤ 50)) then (bif (allN (fun i : Nat => Iv.valid (bx i)) k 0) then (K (.exit 0) ⟨[], []⟩) else (K .ret ⟨[(2, .v (.b false))], []⟩)) else none)))] from ⟨qZX fun K r hr => ?_, trivial⟩) p S hp
  ·obtain ⟨hg, hr⟩ := zG hr
   have hk := of_decide_eq_true hg
   exact (lpA K bx k hk).trans hr
 ·refine (pxallv bx k).trans ?_
  unfold allV
  rw [qZV, decide_eq_true hk]
  cases (allN (fun i : Nat => Iv.valid (bx i)) k 0) <;> rfl
def limB (js : Nat → J) : Nat → Iv := fun i => ⟨(js i).lo, (js i).hi⟩
def hL (js : Nat → J) (ms : Nat → Ms) (n m : Nat) (i : Int) (rows : List (List PV)) : St := ⟨[(1, .p 1 0), (3, .o 30), (4, .v (.n .i64 i))], [(1, .blk [.v (.lf n (fJ js)), .v (.lf m (fM ms))]), (30, .reg 71 2 (.l rows))]⟩
set_option maxRecDepth 100000 in
theorem rdL (G : St → Option (Ret × Mem)) (K : Cont) (js : Nat → J) (ms : Nat → Ms) (n m : Nat) (i : Int) (rows : List (List PV)) : stepR 60 (cxF T (OrL.k [(45, qXH [.a [.lf n (fJ js), .lf m (fM ms)]] (.v (.n .i64 (rErr js ms n m))))]) 60 132 (ntmF T 132)) (ckF T (OrL.k [(45, qXH [.a [.lf n (fJ js), .lf m (fM ms)]] (.v (.n .i64 (rErr js ms n m))))]) 60) (yQ T 132 [0, 1, 0, 1, 1, 1]) ((cxF T (OrL.k [(45, qXH [.a [.lf n (fJ js), .lf m (fM ms)]] (.v (.n .i64 (rErr js ms n m))))]) 60 132 (ntmF T 132)).T.hint (cxF T (OrL.k [(45, qXH [.a [.lf n (fJ js), .lf m (fM ms)]] (.v (.n .i64 (rErr js ms n m))))]) 60 132 (ntmF T 132)).me (jY (yQ T 132 [0, 1, 0, 1, 1, 1]))) K G (hL js ms n m i rows) =
 (bif (decide (i < (n : Int))) then (bif (inB i n) then (bif (inB i n) then (bif (decide (rows.length + 1 ≤ 1000000)) then (G (hL js ms n m (IntKind.i64.wrap (i + 1)) ((rows ++ [[.n .i64 (js (i).toNat).lo, .n .i64 (js (i).toNat).hi]]))))
 else none)
 else none)
 else none)
 else (K (.exit 0) ⟨[(3, .o 30)], [(30, .reg 71 2 (.l rows))]⟩)) := by kernel_rfl
theorem lpL (K : Cont) (js : Nat → J) (ms : Nat → Ms) (n m : Nat) (hn : n ≤ 50) : LF 60 (cxF T (OrL.k [(45, qXH [.a [.lf n (fJ js), .lf m (fM ms)]] (.v (.n .i64 (rErr js ms n m))))]) 60 132 (ntmF T 132)) (ckF T (OrL.k [(45, qXH [.a [.lf n (fJ js), .lf m (fM ms)]] (.v (.n .i64 (rErr js ms n m))))]) 60) (yQ T 132 [0, 1, 0, 1, 1, 1]) ((cxF T (OrL.k [(45, qXH [.a [.lf n (fJ js), .lf m (fM ms)]] (.v (.n .i64 (rErr js ms n m))))]) 60 132 (ntmF T 132)).T.hint (cxF T (OrL.k [(45, qXH [.a [.lf n (fJ js), .lf m (fM ms)]] (.v (.n .i64 (rErr js ms n m))))]) 60 132 (ntmF T 132)).me (jY (yQ T 132 [0, 1, 0, 1, 1, 1]))) K 60 (hL js ms n m 0 []) = (K (.exit 0) ⟨[(3, .o 30)], [(30, .reg 71 2 (.l ((List.range n).map (fun i : Nat => [.n .i64 (js i).lo, .n .i64 (js i).hi]))))]⟩) := by
 refine (lp_app (c := n) (hL js ms n m) (fun i : Nat => [.n .i64 (js i).lo, .n .i64 (js i).hi]) (fun rows => (K (.exit 0) ⟨[(3, .o 30)], [(30, .reg 71 2 (.l rows))]⟩)) (fun G i rows hi hl => ?_) (fun G rows hl => ?_) n 0 60 [] rfl (by omega) (by omega)).trans (congrArg (fun rows => (K (.exit 0) ⟨[(3, .o 30)], [(30, .reg 71 2 (.l rows))]⟩)) (rng0 n _))
 ·refine (rdL G K js ms n m i rows).trans ?_
  rw [decide_eq_true (show (i : Int) < (n : Int) by omega), qWV (by omega), qYU (show i < n by omega), decide_eq_true (show rows.length + 1 ≤ 1000000 by omega), toN]
  rfl
 ·refine (rdL G K js ms n m n rows).trans ?_
  rw [decide_eq_false (show ¬ (n : Int) < (n : Int) by omega)]
  rfl
set_option maxRecDepth 100000 in
theorem pxlimO (js : Nat → J) (ms : Nat → Ms) (n m : Nat) : runKL T (OrL.k [(45, qXH [.a [.lf n (fJ js), .lf m (fM ms)]] (.v (.n .i64 (rErr js ms n m))))]) (qQU [([0, 1, 0, 1, 1, 1], sumAt (hL js ms n m 0 []) (fun K => (bif (decide (n ≤ 50)) then (K (.exit 0) ⟨[(3, .o 30)], [(30, .reg 71 2 (.l ((List.range n).map (fun i : Nat => [.n .i64 (js i).lo, .n .i64 (js i).hi]))))]⟩) else none)))]) 60 132 [.a [.lf n (fJ js), .lf m (fM ms)]] =
 (bif (g1 [.a [.lf n (fJ js), .lf m (fM ms)]]) then (bif (!decide ((rErr js ms n m) = 0)) then some (.v (.l []), [])
 else (bif (gSt (hL js ms n m 0 []) (hL js ms n m 0 [])) then (bif (decide (n ≤ 50)) then some (.ow 71 2 (.l ((List.range n).map (fun i : Nat => [.n .i64 (js i).lo, .n .i64 (js i).hi]))), [])
 else none)
 else none))
 else none) := by kernel_rfl
theorem snd_limO (js : Nat → J) (ms : Nat → Ms) (n m : Nat) : SndA1 Tryz.prog 132 [.a [.lf n (fJ js), .lf m (fM ms)]] (bif decide (rErr js ms n m = 0) then .ow 71 2 (.l ((List.range n).map (fun i : Nat => [.n .i64 (js i).lo, .n .i64 (js i).hi]))) else .v (.l [])) := by
 refine uZ (N := 60) (LO := qQU [([0, 1, 0, 1, 1, 1], sumAt (hL js ms n m 0 []) (fun K => (bif (decide (n ≤ 50)) then (K (.exit 0) ⟨[(3, .o 30)], [(30, .reg 71 2 (.l ((List.range n).map (fun i : Nat => [.n .i64 (js i).lo, .n .i64 (js i).hi]))))]⟩) else none)))]) tabOk mixed (OrL.ok (l := [(45, qXH [.a [.lf n (fJ js), .lf m (fM ms)]] (.v (.n .i64 (rErr js ms n m))))]) ⟨qVJ (snd_crf js ms n m), trivial⟩) (fun p S hp => ?_) ?_
 ·refine qQK (L := yQ T 132) (l := [([0, 1, 0, 1, 1, 1], sumAt (hL js ms n m 0 []) (fun K => (bif (decide (n ≤ 50)) then (K (.exit 0) ⟨[(3, .o 30)], [(30, .reg 71 2 (.l ((List.range n).map (fun i : Nat => [.n .i64 (js i).lo, .n .i64 (js i).hi]))))]⟩) else none)))]) (show AllP _ [([0, 1, 0, 1, 1, 1], sumAt (hL js ms n m 0 []) (fun K => (bif (decide (n ≤ 50)) then (K (.exit 0) ⟨[(3, .o 30)], [(30, .reg 71 2 (.l ((List.range n).map (fun i : Nat => [.n .i64 (js i).lo, .n .i64 (js i).hi]))))]⟩) else none)))] from ⟨qZX fun K r hr => ?_, trivial⟩) p S hp
  ·obtain ⟨hg, hr⟩ := zG hr
   have hn := of_decide_eq_true hg
   exact (lpL K js ms n m hn).trans hr
 ·refine (pxlimO js ms n m).trans ?_
  rw [zYZ, qZV]
  by_cases h : rErr js ms n m = 0
  ·have := rerr_n h
   rw [decide_eq_true h, decide_eq_true (show n ≤ 50 by omega)]
   rfl
  ·rw [decide_eq_false h]
   rfl
theorem snd_lim (js : Nat → J) (ms : Nat → Ms) (n m : Nat) : SndA1 Tryz.prog 132 [.a [.lf n (fJ js), .lf m (fM ms)]] (.v (.lf (bif decide (rErr js ms n m = 0) then n else 0) (fB (limB js)))) := by
 have h0 := snd_limO js ms n m
 by_cases h : rErr js ms n m = 0
 ·rw [decide_eq_true h] at h0 ⊢
  exact snd_res (Same.lf rfl) (snd_own h0)
 ·rw [decide_eq_false h] at h0 ⊢
  exact snd_res (Same.lf rfl) h0
def unFB (f : Nat → List PV) : Nat → Iv := fun i => match f i with
 | [.n _ lo, .n _ hi] => ⟨lo, hi⟩
 | _ => ⟨0, 0⟩
theorem unFB_fB (bx : Nat → Iv) : unFB (fB bx) = bx := rfl
noncomputable def gFB (f : Nat → List PV) : Bool := @decide (f = fB (unFB f)) (Classical.propDecidable _)
theorem gFB_fB (bx : Nat → Iv) : gFB (fB bx) = true := @decide_eq_true _ (Classical.propDecidable _) rfl
noncomputable def zYW : List PV → Option (Bool × Ret) := fun ps => match ps with
 | [.lf k f] => some (decide (k ≤ 50) && gFB f, .v (.b (allV (unFB f) k)))
 | _ => none
theorem ok_av : OneOk Tryz.prog 108 zYW := by
 intro ps r hh
 unfold zYW at hh
 split at hh
 ·simp only [Option.some.injEq, Prod.mk.injEq, Bool.and_eq_true] at hh
  obtain ⟨⟨hk, hf⟩, rfl⟩ := hh
  rename_i k f
  have e : f = fB (unFB f) := @of_decide_eq_true _ (Classical.propDecidable _) hf
  have := snd_allv (unFB f) k (of_decide_eq_true hk)
  rw [← e] at this
  exact this
 ·cases hh
def hW (bx bz : Nat → Iv) (k l : Nat) (i : Int) : St := ⟨[(0, .v (.lf k (fB bx))), (1, .v (.lf l (fB bz))), (5, .v (.n .i64 i))], []⟩
set_option maxRecDepth 100000 in
theorem rdW (G : St → Option (Ret × Mem)) (K : Cont) (bx bz : Nat → Iv) (k l : Nat) (i : Int) : stepR 60 (cxF T (OrL.k ((108, zYW) :: L11)) 60 131 (ntmF T 131)) (ckF T (OrL.k ((108, zYW) :: L11)) 60) (yQ T 131 [0, 1, 0, 1, 1]) ((cxF T (OrL.k ((108, zYW) :: L11)) 60 131 (ntmF T 131)).T.hint (cxF T (OrL.k ((108, zYW) :: L11)) 60 131 (ntmF T 131)).me (jY (yQ T 131 [0, 1, 0, 1, 1]))) K G (hW bx bz k l i) =
 (bif (decide (i < (k : Int))) then (bif (inB i k) then (bif (inB i l) then (bif Iv.within (bx (i).toNat) (bz (i).toNat) then (G (hW bx bz k l (IntKind.i64.wrap (i + 1))))
 else (K .ret ⟨[(4, .v (.b false))], []⟩))
 else none)
 else none)
 else (K (.exit 0) ⟨[], []⟩)) := by kernel_rfl
theorem lpW (K : Cont) (bx bz : Nat → Iv) (k l : Nat) (hk : k ≤ 50) (hl : k = l) : LF 60 (cxF T (OrL.k ((108, zYW) :: L11)) 60 131 (ntmF T 131)) (ckF T (OrL.k ((108, zYW) :: L11)) 60) (yQ T 131 [0, 1, 0, 1, 1]) ((cxF T (OrL.k ((108, zYW) :: L11)) 60 131 (ntmF T 131)).T.hint (cxF T (OrL.k ((108, zYW) :: L11)) 60 131 (ntmF T 131)).me (jY (yQ T 131 [0, 1, 0, 1, 1]))) K 60 (hW bx bz k l 0) = bif (allN (fun i : Nat => Iv.within (bx i) (bz i)) k 0) then (K (.exit 0) ⟨[], []⟩) else (K .ret ⟨[(4, .v (.b false))], []⟩) := by
 refine (zZZ (c := k) (hW bx bz k l) (fun i : Nat => Iv.within (bx i) (bz i)) (K (.exit 0) ⟨[], []⟩) (fun i : Nat => (K .ret ⟨[(4, .v (.b false))], []⟩)) (fun G i hi => ?_) (fun G => ?_) k 0 60 (by omega) (by omega)).trans (runAll_all _ _ _ _ _)
 ·refine (rdW G K bx bz k l i).trans ?_
  rw [decide_eq_true (show (i : Int) < (k : Int) by omega), qWV (by omega), qYU (show i < k by omega), qYU (show i < l by omega), toN]
  cases Iv.within (bx i) (bz i) <;> rfl
 ·refine (rdW G K bx bz k l k).trans ?_
  rw [decide_eq_false (show ¬ (k : Int) < (k : Int) by omega)]
  rfl
def wIn (bx bz : Nat → Iv) (k l : Nat) : Bool := allV bx k && (allV bz l && (decide ((k : Int) = (l : Int)) && (allN (fun i : Nat => Iv.within (bx i) (bz i)) k 0)))
set_option maxRecDepth 100000 in
theorem pxwIn (bx bz : Nat → Iv) (k l : Nat) : runKL T (OrL.k ((108, zYW) :: L11)) (qQU [([0, 1, 0, 1, 1], sumAt (hW bx bz k l 0) (fun K => (bif (decide ((k : Int) = (l : Int)) && decide (k ≤ 50)) then (bif (allN (fun i : Nat => Iv.within (bx i) (bz i)) k 0) then (K (.exit 0) ⟨[], []⟩) else (K .ret ⟨[(4, .v (.b false))], []⟩)) else none)))]) 60 131 [.lf k (fB bx), .lf l (fB bz)] =
 (bif (decide (k ≤ 50) && gFB (fB bx)) then (bif (allV (unFB (fB bx)) k) then (bif (decide (l ≤ 50) && gFB (fB bz)) then (bif (allV (unFB (fB bz)) l) then (bif (!decide ((k : Int) = (l : Int))) then some (.v (.b false), [])
 else (bif (gSt (hW bx bz k l 0) (hW bx bz k l 0)) then (bif (decide ((k : Int) = (l : Int)) && decide (k ≤ 50)) then (bif (allN (fun i : Nat => Iv.within (bx i) (bz i)) k 0) then some (.v (.b true), [])
 else some (.v (.b false), []))
 else none)
 else none))
 else some (.v (.b false), []))
 else none)
 else some (.v (.b false), []))
 else none) := by kernel_rfl
theorem snd_wIn (bx bz : Nat → Iv) (k l : Nat) (hk : k ≤ 50) (hl : l ≤ 50) : SndA1 Tryz.prog 131 [.lf k (fB bx), .lf l (fB bz)] (.v (.b (wIn bx bz k l))) := by
 refine uZ (N := 60) (LO := qQU [([0, 1, 0, 1, 1], sumAt (hW bx bz k l 0) (fun K => (bif (decide ((k : Int) = (l : Int)) && decide (k ≤ 50)) then (bif (allN (fun i : Nat => Iv.within (bx i) (bz i)) k 0) then (K (.exit 0) ⟨[], []⟩) else (K .ret ⟨[(4, .v (.b false))], []⟩)) else none)))]) tabOk mixed (OrL.ok (l := ((108, zYW) :: L11)) ⟨ok_av, L11_ok⟩) (fun p S hp => ?_) ?_
 ·refine qQK (L := yQ T 131) (l := [([0, 1, 0, 1, 1], sumAt (hW bx bz k l 0) (fun K => (bif (decide ((k : Int) = (l : Int)) && decide (k ≤ 50)) then (bif (allN (fun i : Nat => Iv.within (bx i) (bz i)) k 0) then (K (.exit 0) ⟨[], []⟩) else (K .ret ⟨[(4, .v (.b false))], []⟩)) else none)))]) (show AllP _ [([0, 1, 0, 1, 1], sumAt (hW bx bz k l 0) (fun K => (bif (decide ((k : Int) = (l : Int)) && decide (k ≤ 50)) then (bif (allN (fun i : Nat => Iv.within (bx i) (bz i)) k 0) then (K (.exit 0) ⟨[], []⟩) else (K .ret ⟨[(4, .v (.b false))], []⟩)) else none)))] from ⟨qZX fun K r hr => ?_, trivial⟩) p S hp
  ·obtain ⟨hg, hr⟩ := zG hr
   rw [Bool.and_eq_true] at hg
   have hk := of_decide_eq_true hg.2
   have hl : k = l := by have := of_decide_eq_true hg.1; omega
   exact (lpW K bx bz k l hk hl).trans hr
 ·refine (pxwIn bx bz k l).trans ?_
  unfold wIn
  rw [qZV, decide_eq_true hk, decide_eq_true hl, gFB_fB, gFB_fB, unFB_fB, unFB_fB]
  cases allV bx k <;> cases allV bz l <;> cases decide ((k : Int) = (l : Int)) <;> cases (allN (fun i : Nat => Iv.within (bx i) (bz i)) k 0) <;> rfl
def rIn (js : Nat → J) (ms : Nat → Ms) (bx : Nat → Iv) (n m k : Nat) : Bool := wIn bx (limB js) k (bif decide (rErr js ms n m = 0) then n else 0) && decide (0 < (k : Int))
theorem snd_rIn (js : Nat → J) (ms : Nat → Ms) (bx : Nat → Iv) (n m k : Nat) (hk : k ≤ 50) : SndA1 Tryz.prog 86 [.a [.lf n (fJ js), .lf m (fM ms)], .lf k (fB bx)] (.v (.b (rIn js ms bx n m k))) := by
 have hl : (bif decide (rErr js ms n m = 0) then n else 0) ≤ 50 := by
  by_cases h : rErr js ms n m = 0
  ·have := rerr_n h
   rw [decide_eq_true h, cond_true]
   omega
  ·rw [decide_eq_false h, cond_false]
   omega
 refine yV (N := 60) tabOk mixed (OrL.ok (l := [(132, qXH [.a [.lf n (fJ js), .lf m (fM ms)]] (.v (.lf (bif decide (rErr js ms n m = 0) then n else 0) (fB (limB js))))), (131, qXH [.lf k (fB bx), .lf (bif decide (rErr js ms n m = 0) then n else 0) (fB (limB js))] (.v (.b (wIn bx (limB js) k (bif decide (rErr js ms n m = 0) then n else 0)))))]) ⟨qVJ (snd_lim js ms n m), qVJ (snd_wIn bx (limB js) k (bif decide (rErr js ms n m = 0) then n else 0) hk hl), trivial⟩) ?_
 refine (by kernel_rfl : _ = bif (g1 [.a [.lf n (fJ js), .lf m (fM ms)]]) then (bif (g1 [.lf k (fB bx), .lf (bif decide (rErr js ms n m = 0) then n else 0) (fB (limB js))]) then (bif (wIn bx (limB js) k (bif decide (rErr js ms n m = 0) then n else 0)) then (bif (decide (0 < (k : Int))) then some (.v (.b true), [])
 else some (.v (.b false), []))
 else some (.v (.b false), []))
 else none)
 else none).trans ?_
 unfold rIn
 rw [zYZ, zYZ]
 cases wIn bx (limB js) k (bif decide (rErr js ms n m = 0) then n else 0) <;> cases decide (0 < (k : Int)) <;> rfl
theorem within_valid {a b : Iv} (h : Iv.within a b = true) : Iv.valid a = true ∧ Iv.valid b = true := by
 unfold Iv.within at h
 simp only [Bool.and_eq_true] at h
 exact ⟨h.1.1.1, h.1.1.2⟩
theorem in_eq (js : Nat → J) (ms : Nat → Ms) (bx : Nat → Iv) (n m k : Nat) : rIn js ms bx n m k = pIn js ms bx n m k := by
 unfold rIn pIn
 by_cases h : rErr js ms n m = 0
 ·have hn := rerr_n h
  rw [decide_eq_true h, cond_true, Bool.true_and]
  unfold wIn insB
  by_cases e : n = k
  ·subst e
   rw [decide_eq_true (show (n : Int) = n from rfl), decide_eq_true (show 0 < (n : Int) by omega), Bool.and_true, Bool.true_and]
   cases ha : allN (fun i : Nat => Iv.within (bx i) ⟨(js i).lo, (js i).hi⟩) n 0 with
   | true =>
    have h1 : allV bx n = true := allN_iff.2 fun j h1 h2 => (within_valid (allN_iff.1 ha j h1 h2)).1
    have h2 : allV (limB js) n = true := allN_iff.2 fun j h1 h2 => (within_valid (allN_iff.1 ha j h1 h2)).2
    rw [h1, h2]
    exact ha
   | false =>
    have ha' : allN (fun i : Nat => Iv.within (bx i) (limB js i)) n 0 = false := ha
    rw [ha']
    simp only [Bool.and_false]
  ·rw [decide_eq_false (show ¬ (n : Int) = (k : Int) by omega), decide_eq_false (show ¬ (k : Int) = (n : Int) by omega)]
   simp only [Bool.and_false, Bool.false_and]
 ·rw [decide_eq_false h, cond_false, Bool.false_and]
  unfold wIn
  by_cases e : k = 0
  ·rw [decide_eq_false (show ¬ 0 < (k : Int) by omega), Bool.and_false]
  ·rw [decide_eq_false (show ¬ (k : Int) = ((0 : Nat) : Int) by omega)]
   simp only [Bool.and_false, Bool.false_and]
theorem pIn_n {js : Nat → J} {ms : Nat → Ms} {bx : Nat → Iv} {n m k : Nat} (h : pIn js ms bx n m k = true) : rErr js ms n m = 0 ∧ n = k ∧ ∀ i, i < n → Iv.valid (bx i) = true := by
 unfold pIn insB at h
 simp only [Bool.and_eq_true, decide_eq_true_eq] at h
 exact ⟨h.1, by omega, fun i hi => (within_valid (allN_iff.1 h.2.2 i (Nat.zero_le _) (by omega))).1⟩
def isB (bx : Nat → Iv) (n k : Nat) : Bool := decide ((k : Int) = (n : Int)) && allV bx k
theorem snd_isR (js : Nat → J) (ms : Nat → Ms) (bx : Nat → Iv) (n m k : Nat) (hk : k ≤ 50) : SndA1 Tryz.prog 66 [.a [.lf n (fJ js), .lf m (fM ms)], .lf k (fB bx)] (.v (.b (isB bx n k))) := by
 refine yV (N := 60) tabOk mixed (OrL.ok (l := [(108, zYW)]) ⟨ok_av, trivial⟩) ?_
 refine (by kernel_rfl : _ = bif (decide ((k : Int) = (n : Int))) then (bif (decide (k ≤ 50) && gFB (fB bx)) then (bif (allV (unFB (fB bx)) k) then some (.v (.b true), [])
 else some (.v (.b false), []))
 else none)
 else some (.v (.b false), [])).trans ?_
 unfold isB
 rw [decide_eq_true hk, gFB_fB, unFB_fB]
 cases decide ((k : Int) = (n : Int)) <;> cases allV bx k <;> rfl
set_option maxRecDepth 100000 in
theorem tr_cNv (a0 a1 : Int) : runK T (OrL.k L11) 60 106 [.a [.n .i64 a0, .n .i64 a1]] =
 some (.v (.b (!Iv.valid ⟨a0, a1⟩)), []) := by
 refine (by kernel_rfl : _ = bif Iv.valid ⟨a0, a1⟩ then some (.v (.b false), []) else some (.v (.b true), [])).trans ?_
 cases Iv.valid ⟨a0, a1⟩ <;> rfl
noncomputable def o_cNv : List PV → Option (Bool × Ret) := fun ps => match ps with
 | [.a a'] => (ivD a').bind fun a => some (true, .v (.b (!Iv.valid a)))
 | _ => none
theorem ok_cNv : OneOk Tryz.prog 106 o_cNv := by
 intro ps r h
 unfold o_cNv at h
 split at h
 ·simp only [Option.bind_eq_some_iff, Option.some.injEq, Prod.mk.injEq] at h
  obtain ⟨a, ha, hg, rfl⟩ := h
  rw [qJU ha]
  exact yV (N := 60) tabOk mixed (OrL.ok L11_ok) (tr_cNv _ _)
 ·cases h
noncomputable def L12 : OrL := (106, o_cNv) :: L11
theorem L12_ok : AllP (fun x : Nat × (List PV → Option (Bool × Ret)) => OneOk Tryz.prog x.1 x.2) L12 := ⟨ok_cNv, L11_ok⟩
def hI (bx : Nat → Iv) (k : Nat) (i : Int) : St := ⟨[(0, .v (.lf k (fB bx))), (1, .v (.f 106 [] [])), (7, .v (.n .i64 (k : Int))), (8, .v (.n .i64 i))], []⟩
set_option maxRecDepth 100000 in
theorem rdI (G : St → Option (Ret × Mem)) (K : Cont) (bx : Nat → Iv) (k : Nat) (i : Int) : stepR 60 (cxF T (OrL.k L12) 60 151 (ntmF T 151)) (ckF T (OrL.k L12) 60) (yQ T 151 [0, 1, 0, 1]) ((cxF T (OrL.k L12) 60 151 (ntmF T 151)).T.hint (cxF T (OrL.k L12) 60 151 (ntmF T 151)).me (jY (yQ T 151 [0, 1, 0, 1]))) K G (hI bx k i) =
 (bif (decide (i < (k : Int))) then (bif (inB i k) then (bif !Iv.valid (bx (i).toNat) then (K .ret ⟨[(4, .v (.n .i64 i))], []⟩)
 else (G (hI bx k (IntKind.i64.wrap (i + 1)))))
 else none)
 else (K (.exit 0) ⟨[], []⟩)) := by kernel_rfl
theorem lpI (K : Cont) (bx : Nat → Iv) (k : Nat) (hk : k ≤ 50) : LF 60 (cxF T (OrL.k L12) 60 151 (ntmF T 151)) (ckF T (OrL.k L12) 60) (yQ T 151 [0, 1, 0, 1]) ((cxF T (OrL.k L12) 60 151 (ntmF T 151)).T.hint (cxF T (OrL.k L12) 60 151 (ntmF T 151)).me (jY (yQ T 151 [0, 1, 0, 1]))) K 60 (hI bx k 0) = bif (allN (fun i : Nat => Iv.valid (bx i)) k 0) then (K (.exit 0) ⟨[], []⟩) else (K .ret ⟨[(4, .v (.n .i64 ((firstI (fun i : Nat => Iv.valid (bx i)) k 0 : Nat) : Int)))], []⟩) := by
 refine (zZZ (c := k) (hI bx k) (fun i : Nat => Iv.valid (bx i)) (K (.exit 0) ⟨[], []⟩) (fun i : Nat => (K .ret ⟨[(4, .v (.n .i64 (i : Int)))], []⟩)) (fun G i hi => ?_) (fun G => ?_) k 0 60 (by omega) (by omega)).trans (runAll_first _ _ _ _ _)
 ·refine (rdI G K bx k i).trans ?_
  rw [decide_eq_true (show (i : Int) < (k : Int) by omega), qWV (by omega), qYU (show i < k by omega), toN]
  cases Iv.valid (bx i) <;> rfl
 ·refine (rdI G K bx k k).trans ?_
  rw [decide_eq_false (show ¬ (k : Int) < (k : Int) by omega)]
  rfl
set_option maxRecDepth 100000 in
theorem pxidx (bx : Nat → Iv) (k : Nat) : runKL T (OrL.k L12) (qQU [([0, 1, 0, 1], sumAt (hI bx k 0) (fun K => (bif (decide (k ≤ 50)) then (bif (allN (fun i : Nat => Iv.valid (bx i)) k 0) then (K (.exit 0) ⟨[], []⟩) else (K .ret ⟨[(4, .v (.n .i64 ((firstI (fun i : Nat => Iv.valid (bx i)) k 0 : Nat) : Int)))], []⟩)) else none)))]) 60 151 [.lf k (fB bx), .f 106 [] []] =
 (bif (gSt (hI bx k 0) (hI bx k 0)) then (bif (decide (k ≤ 50)) then (bif (allN (fun i : Nat => Iv.valid (bx i)) k 0) then some (.v (.n .i64 (-1)), [])
 else some (.v (.n .i64 ((firstI (fun i : Nat => Iv.valid (bx i)) k 0 : Nat) : Int)), []))
 else none)
 else none) := by kernel_rfl
theorem snd_idx (bx : Nat → Iv) (k : Nat) (hk : k ≤ 50) : SndA1 Tryz.prog 151 [.lf k (fB bx), .f 106 [] []] (.v (.n .i64 (bif allV bx k then -1 else ((firstI (fun i : Nat => Iv.valid (bx i)) k 0 : Nat) : Int)))) := by
 refine uZ (N := 60) (LO := qQU [([0, 1, 0, 1], sumAt (hI bx k 0) (fun K => (bif (decide (k ≤ 50)) then (bif (allN (fun i : Nat => Iv.valid (bx i)) k 0) then (K (.exit 0) ⟨[], []⟩) else (K .ret ⟨[(4, .v (.n .i64 ((firstI (fun i : Nat => Iv.valid (bx i)) k 0 : Nat) : Int)))], []⟩)) else none)))]) tabOk mixed (OrL.ok (l := L12) L12_ok) (fun p S hp => ?_) ?_
 ·refine qQK (L := yQ T 151) (l := [([0, 1, 0, 1], sumAt (hI bx k 0) (fun K => (bif (decide (k ≤ 50)) then (bif (allN (fun i : Nat => Iv.valid (bx i)) k 0) then (K (.exit 0) ⟨[], []⟩) else (K .ret ⟨[(4, .v (.n .i64 ((firstI (fun i : Nat => Iv.valid (bx i)) k 0 : Nat) : Int)))], []⟩)) else none)))]) (show AllP _ [([0, 1, 0, 1], sumAt (hI bx k 0) (fun K => (bif (decide (k ≤ 50)) then (bif (allN (fun i : Nat => Iv.valid (bx i)) k 0) then (K (.exit 0) ⟨[], []⟩) else (K .ret ⟨[(4, .v (.n .i64 ((firstI (fun i : Nat => Iv.valid (bx i)) k 0 : Nat) : Int)))], []⟩)) else none)))] from ⟨qZX fun K r hr => ?_, trivial⟩) p S hp
  ·obtain ⟨hg, hr⟩ := zG hr
   have hk := of_decide_eq_true hg
   exact (lpI K bx k hk).trans hr
 ·refine (pxidx bx k).trans ?_
  unfold allV
  rw [qZV, decide_eq_true hk]
  cases (allN (fun i : Nat => Iv.valid (bx i)) k 0) <;> rfl
theorem snd_conB (bx : Nat → Iv) (k : Nat) (hk : k ≤ 50) : SndA1 Tryz.prog 105 [.lf k (fB bx), .f 106 [] []] (.v (.b (!allV bx k))) := by
 refine yV (N := 60) tabOk mixed (OrL.ok (l := [(151, qXH [.lf k (fB bx), .f 106 [] []] (.v (.n .i64 (bif allV bx k then -1 else ((firstI (fun i : Nat => Iv.valid (bx i)) k 0 : Nat) : Int)))))]) ⟨qVJ (snd_idx bx k hk), trivial⟩) ?_
 refine (by kernel_rfl : _ = bif (g1 [.lf k (fB bx), .f 106 [] []]) then (bif (decide (0 ≤ (bif allV bx k then -1 else ((firstI (fun i : Nat => Iv.valid (bx i)) k 0 : Nat) : Int)))) then some (.v (.b true), [])
 else some (.v (.b false), []))
 else none).trans ?_
 rw [zYZ]
 cases allV bx k with
 | true => rfl
 | false =>
  rw [cond_false, decide_eq_true (show 0 ≤ ((firstI (fun i : Nat => Iv.valid (bx i)) k 0 : Nat) : Int) by omega)]
  rfl
theorem snd_isP (js : Nat → J) (ms : Nat → Ms) (bx : Nat → Iv) (n m k : Nat) (hk : k ≤ 50) : SndA1 Tryz.prog 64 [.a [.lf n (fJ js), .lf m (fM ms)], .lf k (fB bx)] (.v (.b (isB bx n k))) := by
 refine yV (N := 60) tabOk mixed (OrL.ok (l := [(105, qXH [.lf k (fB bx), .f 106 [] []] (.v (.b (!allV bx k))))]) ⟨qVJ (snd_conB bx k hk), trivial⟩) ?_
 refine (by kernel_rfl : _ = bif (decide ((k : Int) = (n : Int))) then (bif (g1 [.lf k (fB bx), .f 106 [] []]) then (bif (!allV bx k) then some (.v (.b false), [])
 else some (.v (.b true), []))
 else none)
 else some (.v (.b false), [])).trans ?_
 unfold isB
 rw [zYZ]
 cases decide ((k : Int) = (n : Int)) <;> cases allV bx k <;> rfl
end Go.Proofs.YtmbnpjpggccefaaGreat.Nx
namespace Go.Proofs.YtmbnpjpggccefaaGreat
open Go.Sx
theorem en74 : yG Tryz.prog 74 := zZ Tryz.func74 (by kernel_rfl) (by kernel_rfl)
theorem en109 : yG Tryz.prog 109 := zZ Tryz.func109 (by kernel_rfl) (by kernel_rfl)
theorem en33 : yG Tryz.prog 33 := zZ Tryz.func33 (by kernel_rfl) (by kernel_rfl)
theorem en110 : yG Tryz.prog 110 := zZ Tryz.func110 (by kernel_rfl) (by kernel_rfl)
theorem en68 : yG Tryz.prog 68 := zZ Tryz.func68 (by kernel_rfl) (by kernel_rfl)
theorem k4 {k : Int} (h : k = 4) : IntKind.i64.wrap (k - 4) = 0 := by rw [h]; rfl
theorem k5 {k : Int} (h : k = 5) : IntKind.i64.wrap (k - 4) = 1 := by rw [h]; rfl
theorem k6 {k : Int} (h : k = 6) : IntKind.i64.wrap (k - 4) = 2 := by rw [h]; rfl
theorem rJoint (a0 a1 : Int) (nm : ByteArray) (kind par ox oy oz jlo jhi we spd acc tq : Int) (w : World) : Calls Tryz.prog 67 [.agg #[.string nm, .int .i64 kind, .int .i64 par, .int .i64 ox, .int .i64 oy, .int .i64 oz, .int .i64 jlo, .int .i64 jhi, .int .i64 we, .int .i64 spd, .int .i64 acc, .int .i64 tq], .agg #[.int .i64 a0, .int .i64 a1]].toArray w (Rets (po (jPose kind ⟨ox, oy, oz⟩ (⟨a0, a1⟩ : Iv))) (w)) := by
 refine zK (n := 36) Tryz.func67 rfl rfl rfl ?_
 refine qK ?_
 refine qZ ?_
 refine jJ 2 rfl rfl rfl rfl ?_; intro b2
 refine jJ 3 rfl rfl rfl rfl ?_; intro b3
 refine yK 4 ze77 rfl rfl rfl ?_; intro b4
 refine qJ ?_
 refine qQ ?_
 refine qK ?_
 refine qZ ?_
 refine jG (F := po) (zY en74 rfl (fun w _ => qRest   w)) rfl rfl rfl ?_; intro r7 hr7
 refine yK 5 ze77 rfl rfl rfl ?_; intro b5
 refine qG 5 ty77 rfl rfl rfl rfl rfl rfl rfl rfl ?_
 refine qJ ?_
 refine qQ ?_
 refine qK ?_
 refine qK ?_
 refine qZ ?_
 refine qY (qX qHW rfl) rfl rfl rfl ?_
 refine qY (zW 2 ty3 rfl rfl rfl) rfl rfl rfl ?_
 refine qJ ?_
 refine qQ ?_
 refine jX ?_
 refine qK ?_
 refine qK ?_
 refine qZ ?_
 refine qY (uK rfl rfl) rfl rfl rfl ?_
 refine qY (qW rfl) rfl rfl rfl ?_
 refine qJ ?_
 refine qQ ?_
 refine yX rfl (fun hc10 => ?_) (fun hc10 => ?_)
 ·
  have e := of_decide_eq_true hc10
  refine yU ?_
  refine qQ ?_
  refine jH rfl (hc10) ?_
  refine qZ ?_
  refine qY (qX qHW rfl) rfl rfl rfl ?_
  refine qY (zW 2 ty3 rfl rfl rfl) rfl rfl rfl ?_
  refine qY (qZQ rfl rfl (by first | exact zX ⟨by omega, by omega⟩ | rfl)) rfl rfl rfl ?_
  refine qY (qV 3 ty71 rfl rfl rfl) rfl rfl rfl ?_
  refine jG (F := po) (zY en109 rfl (fun w _ => qTurn _ _ _  w)) rfl rfl rfl ?_; intro r18 hr18
  refine qG 5 ty77 rfl rfl rfl rfl rfl rfl rfl rfl ?_
  refine qJ ?_
  refine qH ?_
  refine qQ ?_
  refine qK ?_
  refine jV 6 mo (by kernel_rfl) ?_
  simp only [List.take_succ_cons, List.take_zero, List.drop_succ_cons, List.drop_zero]
  refine zH (qX zQG rfl) rfl rfl rfl ?_
  refine zH (qV 2 ty39 rfl rfl rfl) rfl rfl rfl ?_
  refine kK (F := v3) (zY en33 rfl (fun w _ => zZX _ _ _  w)) rfl rfl rfl ?_; intro r32 hr32
  refine kK (F := po) (zY en110 rfl (fun w _ => zQX _ _ _ _ _ _  w)) rfl rfl rfl ?_; intro r33 hr33
  refine zH (qV 5 ty77 rfl rfl rfl) rfl rfl rfl ?_
  refine kK (F := po) (zY en68 rfl (fun w _ => qGX _ _ _ _ _ _ _ _ _ _ _ _ _ _ _ _ _ _ _ _ _ _ _ _ _ _ _ _ _ _ _ _ _ _ _ _ _ _ _ _ _ _ _ _ _ _ _ _  w)) rfl rfl rfl ?_; intro r35 hr35
  refine uU ?_
  refine kJ ?_
  refine qG 4 ty77 rfl rfl rfl rfl rfl rfl rfl rfl ?_
  refine qJ ?_
  refine qQ ?_
  refine zV ?_
  refine zQ (rs := [.cell 4 77]) rfl (resC (zJ 4 rfl rfl ty77 rfl) (resN)) (congrArg (po) (?_ : ⟨⟨⟨⟨_, _⟩, ⟨_, _⟩, ⟨_, _⟩⟩, ⟨⟨_, _⟩, ⟨_, _⟩, ⟨_, _⟩⟩, ⟨⟨_, _⟩, ⟨_, _⟩, ⟨_, _⟩⟩⟩, ⟨⟨_, _⟩, ⟨_, _⟩, ⟨_, _⟩⟩⟩ = jPose kind ⟨ox, oy, oz⟩ (⟨a0, a1⟩ : Iv)))
  show r35 = _
  rw [show r35 = Po.mul r33 r18 from hr35, show r33 = Po.shift r32 from hr33, hr32, show r18 = Po.turn (kind - 1) ⟨a0, a1⟩ from hr18, ← jMot_t (k := kind) (a := ⟨a0, a1⟩) (by omega)]
  rfl
 ·
  have e := of_decide_eq_false hc10
  refine qK ?_
  refine qZ ?_
  refine qY (uK rfl rfl) rfl rfl rfl ?_
  refine qY (qW rfl) rfl rfl rfl ?_
  refine qJ ?_
  refine qQ ?_
  refine yX rfl (fun hc10_2 => ?_) (fun hc10_2 => ?_)
  ·
   have e := of_decide_eq_true hc10_2
   refine yU ?_
   refine qQ ?_
   refine jH rfl (hc10_2) ?_
   refine qZ ?_
   refine qY (qX qHW rfl) rfl rfl rfl ?_
   refine qY (zW 2 ty3 rfl rfl rfl) rfl rfl rfl ?_
   refine qY (qZQ rfl rfl (by first | exact zX ⟨by omega, by omega⟩ | rfl)) rfl rfl rfl ?_
   refine qY (qV 3 ty71 rfl rfl rfl) rfl rfl rfl ?_
   refine jG (F := po) (zY en109 rfl (fun w _ => qTurn _ _ _  w)) rfl rfl rfl ?_; intro r18 hr18
   refine qG 5 ty77 rfl rfl rfl rfl rfl rfl rfl rfl ?_
   refine qJ ?_
   refine qH ?_
   refine qQ ?_
   refine qK ?_
   refine jV 6 mo (by kernel_rfl) ?_
   simp only [List.take_succ_cons, List.take_zero, List.drop_succ_cons, List.drop_zero]
   refine zH (qX zQG rfl) rfl rfl rfl ?_
   refine zH (qV 2 ty39 rfl rfl rfl) rfl rfl rfl ?_
   refine kK (F := v3) (zY en33 rfl (fun w _ => zZX _ _ _  w)) rfl rfl rfl ?_; intro r32 hr32
   refine kK (F := po) (zY en110 rfl (fun w _ => zQX _ _ _ _ _ _  w)) rfl rfl rfl ?_; intro r33 hr33
   refine zH (qV 5 ty77 rfl rfl rfl) rfl rfl rfl ?_
   refine kK (F := po) (zY en68 rfl (fun w _ => qGX _ _ _ _ _ _ _ _ _ _ _ _ _ _ _ _ _ _ _ _ _ _ _ _ _ _ _ _ _ _ _ _ _ _ _ _ _ _ _ _ _ _ _ _ _ _ _ _  w)) rfl rfl rfl ?_; intro r35 hr35
   refine uU ?_
   refine kJ ?_
   refine qG 4 ty77 rfl rfl rfl rfl rfl rfl rfl rfl ?_
   refine qJ ?_
   refine qQ ?_
   refine zV ?_
   refine zQ (rs := [.cell 4 77]) rfl (resC (zJ 4 rfl rfl ty77 rfl) (resN)) (congrArg (po) (?_ : ⟨⟨⟨⟨_, _⟩, ⟨_, _⟩, ⟨_, _⟩⟩, ⟨⟨_, _⟩, ⟨_, _⟩, ⟨_, _⟩⟩, ⟨⟨_, _⟩, ⟨_, _⟩, ⟨_, _⟩⟩⟩, ⟨⟨_, _⟩, ⟨_, _⟩, ⟨_, _⟩⟩⟩ = jPose kind ⟨ox, oy, oz⟩ (⟨a0, a1⟩ : Iv)))
   show r35 = _
   rw [show r35 = Po.mul r33 r18 from hr35, show r33 = Po.shift r32 from hr33, hr32, show r18 = Po.turn (kind - 1) ⟨a0, a1⟩ from hr18, ← jMot_t (k := kind) (a := ⟨a0, a1⟩) (by omega)]
   rfl
  ·
   have e := of_decide_eq_false hc10_2
   refine qZ ?_
   refine qY (uK rfl rfl) rfl rfl rfl ?_
   refine qY (qW rfl) rfl rfl rfl ?_
   refine qJ ?_
   refine qQ ?_
   refine yX rfl (fun hc10_3 => ?_) (fun hc10_3 => ?_)
   ·
    have e := of_decide_eq_true hc10_3
    refine qZ ?_
    refine qY (qX qHW rfl) rfl rfl rfl ?_
    refine qY (zW 2 ty3 rfl rfl rfl) rfl rfl rfl ?_
    refine qY (qZQ rfl rfl (by first | exact zX ⟨by omega, by omega⟩ | rfl)) rfl rfl rfl ?_
    refine qY (qV 3 ty71 rfl rfl rfl) rfl rfl rfl ?_
    refine jG (F := po) (zY en109 rfl (fun w _ => qTurn _ _ _  w)) rfl rfl rfl ?_; intro r18 hr18
    refine qG 5 ty77 rfl rfl rfl rfl rfl rfl rfl rfl ?_
    refine qJ ?_
    refine qH ?_
    refine qQ ?_
    refine qK ?_
    refine jV 6 mo (by kernel_rfl) ?_
    simp only [List.take_succ_cons, List.take_zero, List.drop_succ_cons, List.drop_zero]
    refine zH (qX zQG rfl) rfl rfl rfl ?_
    refine zH (qV 2 ty39 rfl rfl rfl) rfl rfl rfl ?_
    refine kK (F := v3) (zY en33 rfl (fun w _ => zZX _ _ _  w)) rfl rfl rfl ?_; intro r32 hr32
    refine kK (F := po) (zY en110 rfl (fun w _ => zQX _ _ _ _ _ _  w)) rfl rfl rfl ?_; intro r33 hr33
    refine zH (qV 5 ty77 rfl rfl rfl) rfl rfl rfl ?_
    refine kK (F := po) (zY en68 rfl (fun w _ => qGX _ _ _ _ _ _ _ _ _ _ _ _ _ _ _ _ _ _ _ _ _ _ _ _ _ _ _ _ _ _ _ _ _ _ _ _ _ _ _ _ _ _ _ _ _ _ _ _  w)) rfl rfl rfl ?_; intro r35 hr35
    refine uU ?_
    refine kJ ?_
    refine qG 4 ty77 rfl rfl rfl rfl rfl rfl rfl rfl ?_
    refine qJ ?_
    refine qQ ?_
    refine zV ?_
    refine zQ (rs := [.cell 4 77]) rfl (resC (zJ 4 rfl rfl ty77 rfl) (resN)) (congrArg (po) (?_ : ⟨⟨⟨⟨_, _⟩, ⟨_, _⟩, ⟨_, _⟩⟩, ⟨⟨_, _⟩, ⟨_, _⟩, ⟨_, _⟩⟩, ⟨⟨_, _⟩, ⟨_, _⟩, ⟨_, _⟩⟩⟩, ⟨⟨_, _⟩, ⟨_, _⟩, ⟨_, _⟩⟩⟩ = jPose kind ⟨ox, oy, oz⟩ (⟨a0, a1⟩ : Iv)))
    show r35 = _
    rw [show r35 = Po.mul r33 r18 from hr35, show r33 = Po.shift r32 from hr33, hr32, show r18 = Po.turn (kind - 1) ⟨a0, a1⟩ from hr18, ← jMot_t (k := kind) (a := ⟨a0, a1⟩) (by omega)]
    rfl
   ·
    have e := of_decide_eq_false hc10_3
    refine qK ?_
    refine qK ?_
    refine qZ ?_
    refine qY (uK rfl rfl) rfl rfl rfl ?_
    refine qY (qW rfl) rfl rfl rfl ?_
    refine qJ ?_
    refine qQ ?_
    refine yX rfl (fun hc19 => ?_) (fun hc19 => ?_)
    ·
     have e := of_decide_eq_true hc19
     refine yU ?_
     refine qQ ?_
     refine jH rfl (hc19) ?_
     refine qK ?_
     refine qZ ?_
     refine yK 6 ze75 rfl rfl rfl ?_; intro b6
     refine qJ ?_
     refine qQ ?_
     refine qK ?_
     refine qZ ?_
     refine qY (qX qHW rfl) rfl rfl rfl ?_
     refine qY (zW 2 ty3 rfl rfl rfl) rfl rfl rfl ?_
     refine qY (qZQ rfl rfl (by first | exact k4 e | exact k5 e | exact k6 e)) rfl rfl rfl ?_
     refine qY (qV 3 ty71 rfl rfl rfl) rfl rfl rfl ?_
     refine qY (yY ar75 rfl rfl (by first | decide | omega) (by first | decide | omega)) rfl rfl rfl ?_
     refine qG 6 ty71 rfl rfl rfl rfl rfl rfl rfl rfl ?_
     refine qJ ?_
     refine qQ ?_
     refine qZ ?_
     refine qY (qV 6 ty75 rfl rfl rfl) rfl rfl rfl ?_
     refine jG (F := po) (zY en110 rfl (fun w _ => zQX _ _ _ _ _ _  w)) rfl rfl rfl ?_; intro r29 hr29
     refine qG 5 ty77 rfl rfl rfl rfl rfl rfl rfl rfl ?_
     refine qJ ?_
     refine qH ?_
     refine qQ ?_
     refine qK ?_
     refine jV 6 mo (by kernel_rfl) ?_
     simp only [List.take_succ_cons, List.take_zero, List.drop_succ_cons, List.drop_zero]
     refine zH (qX zQG rfl) rfl rfl rfl ?_
     refine zH (qV 2 ty39 rfl rfl rfl) rfl rfl rfl ?_
     refine kK (F := v3) (zY en33 rfl (fun w _ => zZX _ _ _  w)) rfl rfl rfl ?_; intro r32 hr32
     refine kK (F := po) (zY en110 rfl (fun w _ => zQX _ _ _ _ _ _  w)) rfl rfl rfl ?_; intro r33 hr33
     refine zH (qV 5 ty77 rfl rfl rfl) rfl rfl rfl ?_
     refine kK (F := po) (zY en68 rfl (fun w _ => qGX _ _ _ _ _ _ _ _ _ _ _ _ _ _ _ _ _ _ _ _ _ _ _ _ _ _ _ _ _ _ _ _ _ _ _ _ _ _ _ _ _ _ _ _ _ _ _ _  w)) rfl rfl rfl ?_; intro r35 hr35
     refine uU ?_
     refine kJ ?_
     refine qG 4 ty77 rfl rfl rfl rfl rfl rfl rfl rfl ?_
     refine qJ ?_
     refine qQ ?_
     refine zV ?_
     refine zQ (rs := [.cell 4 77]) rfl (resC (zJ 4 rfl rfl ty77 rfl) (resN)) (congrArg (po) (?_ : ⟨⟨⟨⟨_, _⟩, ⟨_, _⟩, ⟨_, _⟩⟩, ⟨⟨_, _⟩, ⟨_, _⟩, ⟨_, _⟩⟩, ⟨⟨_, _⟩, ⟨_, _⟩, ⟨_, _⟩⟩⟩, ⟨⟨_, _⟩, ⟨_, _⟩, ⟨_, _⟩⟩⟩ = jPose kind ⟨ox, oy, oz⟩ (⟨a0, a1⟩ : Iv)))
     show r35 = _
     rw [show r35 = Po.mul r33 r29 from hr35, show r33 = Po.shift r32 from hr33, hr32, show r29 = Po.shift (V3.put (kind - 4) ⟨a0, a1⟩) from hr29.trans (by rw [e]; rfl), ← jMot_s (k := kind) (a := ⟨a0, a1⟩) (by omega)]
     rfl
    ·
     have e := of_decide_eq_false hc19
     refine qK ?_
     refine qZ ?_
     refine qY (uK rfl rfl) rfl rfl rfl ?_
     refine qY (qW rfl) rfl rfl rfl ?_
     refine qJ ?_
     refine qQ ?_
     refine yX rfl (fun hc19_2 => ?_) (fun hc19_2 => ?_)
     ·
      have e := of_decide_eq_true hc19_2
      refine yU ?_
      refine qQ ?_
      refine jH rfl (hc19_2) ?_
      refine qK ?_
      refine qZ ?_
      refine yK 6 ze75 rfl rfl rfl ?_; intro b6
      refine qJ ?_
      refine qQ ?_
      refine qK ?_
      refine qZ ?_
      refine qY (qX qHW rfl) rfl rfl rfl ?_
      refine qY (zW 2 ty3 rfl rfl rfl) rfl rfl rfl ?_
      refine qY (qZQ rfl rfl (by first | exact k4 e | exact k5 e | exact k6 e)) rfl rfl rfl ?_
      refine qY (qV 3 ty71 rfl rfl rfl) rfl rfl rfl ?_
      refine qY (yY ar75 rfl rfl (by first | decide | omega) (by first | decide | omega)) rfl rfl rfl ?_
      refine qG 6 ty71 rfl rfl rfl rfl rfl rfl rfl rfl ?_
      refine qJ ?_
      refine qQ ?_
      refine qZ ?_
      refine qY (qV 6 ty75 rfl rfl rfl) rfl rfl rfl ?_
      refine jG (F := po) (zY en110 rfl (fun w _ => zQX _ _ _ _ _ _  w)) rfl rfl rfl ?_; intro r29 hr29
      refine qG 5 ty77 rfl rfl rfl rfl rfl rfl rfl rfl ?_
      refine qJ ?_
      refine qH ?_
      refine qQ ?_
      refine qK ?_
      refine jV 6 mo (by kernel_rfl) ?_
      simp only [List.take_succ_cons, List.take_zero, List.drop_succ_cons, List.drop_zero]
      refine zH (qX zQG rfl) rfl rfl rfl ?_
      refine zH (qV 2 ty39 rfl rfl rfl) rfl rfl rfl ?_
      refine kK (F := v3) (zY en33 rfl (fun w _ => zZX _ _ _  w)) rfl rfl rfl ?_; intro r32 hr32
      refine kK (F := po) (zY en110 rfl (fun w _ => zQX _ _ _ _ _ _  w)) rfl rfl rfl ?_; intro r33 hr33
      refine zH (qV 5 ty77 rfl rfl rfl) rfl rfl rfl ?_
      refine kK (F := po) (zY en68 rfl (fun w _ => qGX _ _ _ _ _ _ _ _ _ _ _ _ _ _ _ _ _ _ _ _ _ _ _ _ _ _ _ _ _ _ _ _ _ _ _ _ _ _ _ _ _ _ _ _ _ _ _ _  w)) rfl rfl rfl ?_; intro r35 hr35
      refine uU ?_
      refine kJ ?_
      refine qG 4 ty77 rfl rfl rfl rfl rfl rfl rfl rfl ?_
      refine qJ ?_
      refine qQ ?_
      refine zV ?_
      refine zQ (rs := [.cell 4 77]) rfl (resC (zJ 4 rfl rfl ty77 rfl) (resN)) (congrArg (po) (?_ : ⟨⟨⟨⟨_, _⟩, ⟨_, _⟩, ⟨_, _⟩⟩, ⟨⟨_, _⟩, ⟨_, _⟩, ⟨_, _⟩⟩, ⟨⟨_, _⟩, ⟨_, _⟩, ⟨_, _⟩⟩⟩, ⟨⟨_, _⟩, ⟨_, _⟩, ⟨_, _⟩⟩⟩ = jPose kind ⟨ox, oy, oz⟩ (⟨a0, a1⟩ : Iv)))
      show r35 = _
      rw [show r35 = Po.mul r33 r29 from hr35, show r33 = Po.shift r32 from hr33, hr32, show r29 = Po.shift (V3.put (kind - 4) ⟨a0, a1⟩) from hr29.trans (by rw [e]; rfl), ← jMot_s (k := kind) (a := ⟨a0, a1⟩) (by omega)]
      rfl
     ·
      have e := of_decide_eq_false hc19_2
      refine qZ ?_
      refine qY (uK rfl rfl) rfl rfl rfl ?_
      refine qY (qW rfl) rfl rfl rfl ?_
      refine qJ ?_
      refine qQ ?_
      refine yX rfl (fun hc19_3 => ?_) (fun hc19_3 => ?_)
      ·
       have e := of_decide_eq_true hc19_3
       refine qK ?_
       refine qZ ?_
       refine yK 6 ze75 rfl rfl rfl ?_; intro b6
       refine qJ ?_
       refine qQ ?_
       refine qK ?_
       refine qZ ?_
       refine qY (qX qHW rfl) rfl rfl rfl ?_
       refine qY (zW 2 ty3 rfl rfl rfl) rfl rfl rfl ?_
       refine qY (qZQ rfl rfl (by first | exact k4 e | exact k5 e | exact k6 e)) rfl rfl rfl ?_
       refine qY (qV 3 ty71 rfl rfl rfl) rfl rfl rfl ?_
       refine qY (yY ar75 rfl rfl (by first | decide | omega) (by first | decide | omega)) rfl rfl rfl ?_
       refine qG 6 ty71 rfl rfl rfl rfl rfl rfl rfl rfl ?_
       refine qJ ?_
       refine qQ ?_
       refine qZ ?_
       refine qY (qV 6 ty75 rfl rfl rfl) rfl rfl rfl ?_
       refine jG (F := po) (zY en110 rfl (fun w _ => zQX _ _ _ _ _ _  w)) rfl rfl rfl ?_; intro r29 hr29
       refine qG 5 ty77 rfl rfl rfl rfl rfl rfl rfl rfl ?_
       refine qJ ?_
       refine qH ?_
       refine qQ ?_
       refine qK ?_
       refine jV 6 mo (by kernel_rfl) ?_
       simp only [List.take_succ_cons, List.take_zero, List.drop_succ_cons, List.drop_zero]
       refine zH (qX zQG rfl) rfl rfl rfl ?_
       refine zH (qV 2 ty39 rfl rfl rfl) rfl rfl rfl ?_
       refine kK (F := v3) (zY en33 rfl (fun w _ => zZX _ _ _  w)) rfl rfl rfl ?_; intro r32 hr32
       refine kK (F := po) (zY en110 rfl (fun w _ => zQX _ _ _ _ _ _  w)) rfl rfl rfl ?_; intro r33 hr33
       refine zH (qV 5 ty77 rfl rfl rfl) rfl rfl rfl ?_
       refine kK (F := po) (zY en68 rfl (fun w _ => qGX _ _ _ _ _ _ _ _ _ _ _ _ _ _ _ _ _ _ _ _ _ _ _ _ _ _ _ _ _ _ _ _ _ _ _ _ _ _ _ _ _ _ _ _ _ _ _ _  w)) rfl rfl rfl ?_; intro r35 hr35
       refine uU ?_
       refine kJ ?_
       refine qG 4 ty77 rfl rfl rfl rfl rfl rfl rfl rfl ?_
       refine qJ ?_
       refine qQ ?_
       refine zV ?_
       refine zQ (rs := [.cell 4 77]) rfl (resC (zJ 4 rfl rfl ty77 rfl) (resN)) (congrArg (po) (?_ : ⟨⟨⟨⟨_, _⟩, ⟨_, _⟩, ⟨_, _⟩⟩, ⟨⟨_, _⟩, ⟨_, _⟩, ⟨_, _⟩⟩, ⟨⟨_, _⟩, ⟨_, _⟩, ⟨_, _⟩⟩⟩, ⟨⟨_, _⟩, ⟨_, _⟩, ⟨_, _⟩⟩⟩ = jPose kind ⟨ox, oy, oz⟩ (⟨a0, a1⟩ : Iv)))
       show r35 = _
       rw [show r35 = Po.mul r33 r29 from hr35, show r33 = Po.shift r32 from hr33, hr32, show r29 = Po.shift (V3.put (kind - 4) ⟨a0, a1⟩) from hr29.trans (by rw [e]; rfl), ← jMot_s (k := kind) (a := ⟨a0, a1⟩) (by omega)]
       rfl
      ·
       have e := of_decide_eq_false hc19_3
       refine yU ?_
       refine qH ?_
       refine qQ ?_
       refine qK ?_
       refine jV 6 mo (by kernel_rfl) ?_
       simp only [List.take_succ_cons, List.take_zero, List.drop_succ_cons, List.drop_zero]
       refine zH (qX zQG rfl) rfl rfl rfl ?_
       refine zH (qV 2 ty39 rfl rfl rfl) rfl rfl rfl ?_
       refine kK (F := v3) (zY en33 rfl (fun w _ => zZX _ _ _  w)) rfl rfl rfl ?_; intro r32 hr32
       refine kK (F := po) (zY en110 rfl (fun w _ => zQX _ _ _ _ _ _  w)) rfl rfl rfl ?_; intro r33 hr33
       refine zH (qV 5 ty77 rfl rfl rfl) rfl rfl rfl ?_
       refine kK (F := po) (zY en68 rfl (fun w _ => qGX _ _ _ _ _ _ _ _ _ _ _ _ _ _ _ _ _ _ _ _ _ _ _ _ _ _ _ _ _ _ _ _ _ _ _ _ _ _ _ _ _ _ _ _ _ _ _ _  w)) rfl rfl rfl ?_; intro r35 hr35
       refine uU ?_
       refine kJ ?_
       refine qG 4 ty77 rfl rfl rfl rfl rfl rfl rfl rfl ?_
       refine qJ ?_
       refine qQ ?_
       refine zV ?_
       refine zQ (rs := [.cell 4 77]) rfl (resC (zJ 4 rfl rfl ty77 rfl) (resN)) (congrArg (po) (?_ : ⟨⟨⟨⟨_, _⟩, ⟨_, _⟩, ⟨_, _⟩⟩, ⟨⟨_, _⟩, ⟨_, _⟩, ⟨_, _⟩⟩, ⟨⟨_, _⟩, ⟨_, _⟩, ⟨_, _⟩⟩⟩, ⟨⟨_, _⟩, ⟨_, _⟩, ⟨_, _⟩⟩⟩ = jPose kind ⟨ox, oy, oz⟩ (⟨a0, a1⟩ : Iv)))
       show r35 = _
       rw [show r35 = Po.mul r33 r7 from hr35, show r33 = Po.shift r32 from hr33, hr32, show r7 = Po.rest from hr7, ← jMot_r (k := kind) (a := ⟨a0, a1⟩) (by omega) (by omega)]
       rfl
end Go.Proofs.YtmbnpjpggccefaaGreat
namespace Go.Proofs.YtmbnpjpggccefaaGreat
open Go.Sx
theorem en45 : yG Tryz.prog 45 := zZ Tryz.func45 (by kernel_rfl) (by kernel_rfl)
theorem en66 : yG Tryz.prog 66 := zZ Tryz.func66 (by kernel_rfl) (by kernel_rfl)
theorem en67 : yG Tryz.prog 67 := zZ Tryz.func67 (by kernel_rfl) (by kernel_rfl)
theorem sl83 : slcB Tryz.prog 83 77 24 = true := by kernel_rfl
def plC (ps : List Po) : List Value := (ps.map pc).flatten
theorem plC_snoc (ps : List Po) (p : Po) : plC (ps ++ [p]) = plC ps ++ pc p := by simp [plC]
theorem pl_slc {m e cap k : Nat} {a : Option Addr} {ps : List Po} {w : World} (hl : ps.length = k) (h : OwnF m e 24 a cap k (plC ps) w) : SlcIs 24 a (ps.map pc) w :=
 zQY (rows := ps.map pc) (fun r hr => by obtain ⟨p, _, rfl⟩ := List.mem_map.1 hr; rfl) (by rw [List.length_map, hl]; exact h)
theorem pl_at {ps : List Po} {i : Nat} (h : i < ps.length) : (ps.map pc)[i]? = some (pc (ps.getD i Po.rest)) := by
 rw [List.getElem?_map]
 simp [List.getD_eq_getElem?_getD, h]
theorem rLinks  (aj am ab : Option Addr) (cj nm cm cb n : Nat) (js : List J) (bx : List Iv) (hn : n ≤ 1000) (hjn : js.length = n) (hbn : bx.length = n) (hpar : ∀ (k : Nat) (j : J), js[k]? = some j → -1 ≤ j.parent ∧ j.parent < k) (w : World) (hS : SlcIs 12 aj (js.map jc) w) (hT : SlcIs 2 ab (bx.map ivc) w) (hC : ∀ w' : World, Grow w w' → Calls Tryz.prog 45 [.agg #[.slice aj n cj, .slice am nm cm]].toArray w' (Rets (vI (0 : Int)) w')) (hB : ∀ w' : World, Grow w w' → Calls Tryz.prog 66 [.agg #[.slice aj n cj, .slice am nm cm], .slice ab n cb].toArray w' (Rets (vB true) w')) : Calls Tryz.prog 36 [.agg #[.slice aj n cj, .slice am nm cm], .slice ab n cb].toArray w (RetsF (X := Option Addr × Nat) (fun _ => True) (fun x => .slice x.1 n x.2) (fun x => OwnF 0 77 24 x.1 x.2 n (plC (lks js bx n))) w) := by
 refine zK (n := 56) Tryz.func36 rfl rfl rfl ?_
 refine qK ?_
 refine qZ ?_
 refine jJ 2 rfl rfl rfl rfl ?_; intro b2
 refine qY (qW rfl) rfl rfl rfl ?_
 refine qJ ?_
 refine qQ ?_
 refine qK ?_
 refine qK ?_
 refine qZ ?_
 refine qY (qV 2 ty25 rfl rfl rfl) rfl rfl rfl ?_
 refine jG (F := vI) (zY en45 rfl (fun w' k => hC w' k.grow)) rfl rfl rfl ?_; intro r9 hr9
 refine qY (opV_neq rfl rfl) rfl rfl rfl ?_
 refine qY (qU rfl) rfl rfl rfl ?_
 refine doL_false 11 rfl (by rw [hr9]; rfl) ?_
 refine qY (qV 2 ty25 rfl rfl rfl) rfl rfl rfl ?_
 refine qY (qU rfl) rfl rfl rfl ?_
 refine jG (F := vB) (zY en66 rfl (fun w' k => hB w' k.grow)) rfl rfl rfl ?_; intro r14 hr14
 refine qY (qUW rfl) rfl rfl rfl ?_
 refine qY (kW rfl rfl rfl rfl) rfl rfl rfl ?_
 refine qJ ?_
 refine qQ ?_
 refine doC_cond_f rfl (by rw [hr14]; rfl) ?_
 refine yU ?_
 refine qQ ?_
 refine qK ?_
 refine qZ ?_
 refine qY (qW rfl) rfl rfl rfl ?_
 refine qJ ?_
 refine qQ ?_
 refine qK ?_
 refine qK ?_
 refine doC_own 100 77 24 ?_
 refine qZ ?_
 refine qY (qW rfl) rfl rfl rfl ?_
 refine qJ ?_
 refine qQ ?_
 refine jX ?_
 refine doC_loopK [1, 2] [2] (α := Nat × Option Addr × Nat × List Po) (fun x => n - x.1) (fun x => x.1 ≤ n ∧ lks js bx x.1 = x.2.2.2 ∧ x.2.2.2.length = x.1) (fun x => ⟨w, [(100, ownD x.2.1, OwnF 0 77 24 x.2.1 x.2.2.1 x.1 (plC x.2.2.2))]⟩) (fun x => [(5, .slice x.2.1 x.1 x.2.2.1), (6, .int .i64 (x.1 : Int))]) (fun _ => []) (0, none, 0, []) rfl rfl ?_ ?_ ?_ ?_ rfl ?_
 ·
  exact ⟨Nat.zero_le _, rfl, rfl⟩
 ·
  exact rfl
 ·
  repeat' first | exact trivial | exact True.intro | refine ⟨rfl, ?_⟩
 ·
  repeat' first | exact trivial | exact True.intro | refine ⟨rfl, ?_⟩
 rintro ⟨k, a, cap, ps⟩ ⟨hk, hps, hlen⟩
 dsimp only at hk hps hlen ⊢
 refine qK ?_
 refine qK ?_
 refine qZ ?_
 refine qY (qU rfl) rfl rfl rfl ?_
 refine qY (qU rfl) rfl rfl rfl ?_
 refine qY (opV_len_slice sl30 rfl) rfl rfl rfl ?_
 refine qY (qZJ rfl rfl) rfl rfl rfl ?_
 refine qJ ?_
 refine qQ ?_
 refine yX rfl (fun hc20 => ?_) (fun hc20 => ?_)
 ·
  have h2 : k < n := by have := of_decide_eq_true hc20; omega
  obtain ⟨j, hjk⟩ : ∃ j, js[k]? = some j := ⟨_, List.getElem?_eq_getElem (by omega)⟩
  obtain ⟨b, hak⟩ : ∃ b, bx[k]? = some b := ⟨_, List.getElem?_eq_getElem (by omega)⟩
  have hj : (js.map jc)[k]? = some (jc j) := by rw [List.getElem?_map, hjk]; rfl
  have hbk : (bx.map ivc)[k]? = some (ivc b) := by rw [List.getElem?_map, hak]; rfl
  have hpj := hpar _ j hjk
  refine yU ?_
  refine qQ ?_
  refine qK ?_
  refine jX ?_
  refine qK ?_
  refine jV 11 mo (by kernel_rfl) ?_
  simp only [List.take_succ_cons, List.take_zero, List.drop_succ_cons, List.drop_zero]
  refine zH (qX zQJ rfl) rfl rfl rfl ?_
  refine zH (zW 2 ty22 rfl rfl rfl) rfl rfl rfl ?_
  refine zH (qU rfl) rfl rfl rfl ?_
  refine zH (qYY (e := 70) (uX hS) (by kernel_rfl) rfl rfl rfl hj h2) rfl rfl rfl ?_
  refine zH (opV_loadSA (vs := [.string j.name, .int .i64 j.kind, .int .i64 j.parent, .int .i64 j.off.x, .int .i64 j.off.y, .int .i64 j.off.z, .int .i64 j.lo, .int .i64 j.hi, .int .i64 j.weight, .int .i64 j.speed, .int .i64 j.accel, .int .i64 j.torque]) k 0 (uX hS) hj ty70 rfl rfl) rfl rfl rfl ?_
  refine zH (qU rfl) rfl rfl rfl ?_
  refine zH (qU rfl) rfl rfl rfl ?_
  refine zH (qYY (e := 71) (uX hT) (by kernel_rfl) rfl rfl rfl hbk h2) rfl rfl rfl ?_
  refine zH (opV_loadSA (vs := [.int .i64 b.lo, .int .i64 b.hi]) k 0 (uX hT) hbk ty71 rfl rfl) rfl rfl rfl ?_
  refine kK (F := po) (zY en67 rfl (fun w _ => rJoint _ _ _ _ _ _ _ _ _ _ _ _ _ _ w)) rfl rfl rfl ?_; intro r32 hr32
  refine doG_alloc ze77 rfl rfl rfl rfl ?_
  refine uU ?_
  refine tail_alloc 7 rfl ?_; intro b7_2
  refine kJ ?_
  refine qG 7 ty77 rfl rfl rfl rfl rfl rfl rfl rfl ?_
  refine qJ ?_
  refine qQ ?_
  refine qK ?_
  refine qK ?_
  refine qZ ?_
  refine qY (qX zQJ rfl) rfl rfl rfl ?_
  refine qY (zW 2 ty22 rfl rfl rfl) rfl rfl rfl ?_
  refine qY (qU rfl) rfl rfl rfl ?_
  refine qY (qYY (e := 70) (uX hS) (by kernel_rfl) rfl rfl rfl hj h2) rfl rfl rfl ?_
  refine qY (opV_fieldS (uX hS) hj fa70_2 rfl) rfl rfl rfl ?_
  refine qY (opV_loadS1 k 2 (uX hS) hj ty3 rfl rfl) rfl rfl rfl ?_
  refine qY (opV_neq rfl rfl) rfl rfl rfl ?_
  refine qJ ?_
  refine qQ ?_
  refine yX rfl (fun hc39 => ?_) (fun hc39 => ?_)
  ·
   have hp : ¬ j.parent = -1 := by simpa using hc39
   have hpl : j.parent.toNat < ps.length := by omega
   have hpn : j.parent = ((j.parent.toNat : Nat) : Int) := by omega
   refine jV 11 mo (by kernel_rfl) ?_
   simp only [List.take_succ_cons, List.take_zero, List.drop_succ_cons, List.drop_zero]
   refine zH (qU rfl) rfl rfl rfl ?_
   refine zH (qX zQJ rfl) rfl rfl rfl ?_
   refine zH (zW 2 ty22 rfl rfl rfl) rfl rfl rfl ?_
   refine zH (qU rfl) rfl rfl rfl ?_
   refine zH (qYY (e := 70) (uX hS) (by kernel_rfl) rfl rfl rfl hj h2) rfl rfl rfl ?_
   refine zH (opV_fieldS (uX hS) hj fa70_2 rfl) rfl rfl rfl ?_
   refine zH (opV_loadS1 k 2 (uX hS) hj ty3 rfl rfl) rfl rfl rfl ?_
   refine zH (qYY (e := 77) ((qHH (id := 100) rfl).imp (fun _ h => pl_slc hlen h)) (by kernel_rfl) rfl rfl hpn (pl_at hpl) (by omega)) rfl rfl rfl ?_
   refine zH (opV_loadSA (vs := pc (ps.getD j.parent.toNat Po.rest)) j.parent.toNat 0 ((qHH (id := 100) rfl).imp (fun _ h => pl_slc hlen h)) (pl_at hpl) ty77 rfl rfl) rfl rfl rfl ?_
   refine zH (qV 7 ty77 rfl rfl rfl) rfl rfl rfl ?_
   refine kK (F := po) (zY en68 rfl (fun w _ => qGX _ _ _ _ _ _ _ _ _ _ _ _ _ _ _ _ _ _ _ _ _ _ _ _ _ _ _ _ _ _ _ _ _ _ _ _ _ _ _ _ _ _ _ _ _ _ _ _  w)) rfl rfl rfl ?_; intro r50 hr50
   refine uU ?_
   refine kJ ?_
   refine qG 7 ty77 rfl rfl rfl rfl rfl rfl rfl rfl ?_
   refine qJ ?_
   refine qQ ?_
   refine qZ ?_
   refine qY (qU rfl) rfl rfl rfl ?_
   refine qY (qV 7 ty77 rfl rfl rfl) rfl rfl rfl ?_
   refine qUQ 53 sl83 ze77 rfl rfl rfl rfl rfl rfl rfl rfl ?_; intro b53
   refine qUZ (id2 := 53) 100 app83 rfl rfl rfl rfl rfl rfl rfl (by omega) (by omega) rfl rfl ?_; intro a54 c54 R54 hR54
   obtain rfl := Option.some.inj hR54
   refine qY (qW rfl) rfl rfl rfl ?_
   refine qJ ?_
   refine qH ?_
   refine qQ ?_
   refine qZ ?_
   refine qY (qU rfl) rfl rfl rfl ?_
   refine qY (jU rfl rfl (qHY (by omega))) rfl rfl rfl ?_
   refine qY (qW rfl) rfl rfl rfl ?_
   refine qJ ?_
   refine qYZ (k + 1, a54, c54, ps ++ [r50]) (by refine ⟨?_, ?_, ?_⟩ <;> dsimp only; omega; rw [lks_succ hjk hak, hps]; exact congrArg (fun x => ps ++ [x]) ((if_neg hp).trans (by rw [show r50 = Po.mul (ps.getD j.parent.toNat Po.rest) r32 from hr50, hr32]; try rfl)); simp [hlen]) (by show n - (k + 1) < n - k; omega) (by dsimp only; rw [plC_snoc]; rfl) ?_ ?_ rfl
   repeat' first | exact trivial | exact True.intro | refine ⟨rfl, ?_⟩
  ·
   have hp : j.parent = -1 := by simpa using hc39
   refine yU ?_
   refine qQ ?_
   refine qZ ?_
   refine qY (qU rfl) rfl rfl rfl ?_
   refine qY (qV 7 ty77 rfl rfl rfl) rfl rfl rfl ?_
   refine qUQ 53 sl83 ze77 rfl rfl rfl rfl rfl rfl rfl rfl ?_; intro b53
   refine qUZ (id2 := 53) 100 app83 rfl rfl rfl rfl rfl rfl rfl (by omega) (by omega) rfl rfl ?_; intro a54 c54 R54 hR54
   obtain rfl := Option.some.inj hR54
   refine qY (qW rfl) rfl rfl rfl ?_
   refine qJ ?_
   refine qH ?_
   refine qQ ?_
   refine qZ ?_
   refine qY (qU rfl) rfl rfl rfl ?_
   refine qY (jU rfl rfl (qHY (by omega))) rfl rfl rfl ?_
   refine qY (qW rfl) rfl rfl rfl ?_
   refine qJ ?_
   refine qYZ (k + 1, a54, c54, ps ++ [r32]) (by refine ⟨?_, ?_, ?_⟩ <;> dsimp only; omega; rw [lks_succ hjk hak, hps]; exact congrArg (fun x => ps ++ [x]) ((if_pos hp).trans hr32.symm); simp [hlen]) (by show n - (k + 1) < n - k; omega) (by dsimp only; rw [plC_snoc]; rfl) ?_ ?_ rfl
   repeat' first | exact trivial | exact True.intro | refine ⟨rfl, ?_⟩
 ·
  obtain rfl : k = n := by have := of_decide_eq_false hc20; omega
  refine qWH ?_
  refine jW ?_
  refine jW ?_
  refine uG ?_
  refine qQ ?_
  refine qK ?_
  refine qZ ?_
  refine qY (qU rfl) rfl rfl rfl ?_
  refine qY (qW rfl) rfl rfl rfl ?_
  refine qJ ?_
  refine qQ ?_
  refine zV ?_
  refine qJQ (rs := [.tmp 4]) rfl (resC (yH rfl) (resN)) rfl ?_
  intro w2 k2
  obtain ⟨_, q2, q3⟩ := k2.facts _ List.mem_cons_self
  exact ⟨(a, cap), trivial, rfl, k2.grow, ownD a, own_dep _ _ _ _ _ _ _, fun z hz => ⟨(q2 z hz).1, (q2 z hz).2.1⟩, by dsimp only; rw [hps]; exact q3⟩
end Go.Proofs.YtmbnpjpggccefaaGreat
namespace Go.Proofs.YtmbnpjpggccefaaGreat.Nf
open Go.Rx Rt Go.Sx Go.RowKit Od Ov Pc Na Nb Nc Nx
theorem cj_par {i : Int} {j : J} (h : cjT (fun e => e) i j = 0) : -1 ≤ j.parent ∧ j.parent < i := by
 unfold cjT at h
 by_cases h1 : j.kind < 0
 ·rw [decide_eq_true h1, cond_true] at h; exact absurd h (by decide)
 by_cases h2 : 6 < j.kind
 ·rw [decide_eq_false h1, cond_false, decide_eq_true h2, cond_true] at h; exact absurd h (by decide)
 by_cases h3 : j.parent < -1
 ·rw [decide_eq_false h1, cond_false, decide_eq_false h2, cond_false, decide_eq_true h3, cond_true] at h; exact absurd h (by decide)
 by_cases h4 : i ≤ j.parent
 ·rw [decide_eq_false h1, cond_false, decide_eq_false h2, cond_false, decide_eq_false h3, cond_false, decide_eq_true h4, cond_true] at h; exact absurd h (by decide)
 omega
theorem jerr_cj {js : Nat → J} {n i : Nat} (h : jErr js n i = 0) : cjT (fun e => e) i (js i) = 0 := by
 unfold jErr at h
 cases h1 : nmB (js i).name with
 | false => rw [h1] at h; exact absurd (show (802 : Int) = 0 from h) (by decide)
 | true =>
  cases h2 : dup js (js i).name i 0 with
  | true => rw [h1, h2] at h; exact absurd (show (802 : Int) = 0 from h) (by decide)
  | false => rw [h1, h2] at h; exact h
theorem je_all {js : Nat → J} {n : Nat} : ∀ {k p : Nat}, jE js n k p = 0 → ∀ i, p ≤ i → i < p + k → jErr js n i = 0
 | 0, p, _, i, h1, h2 => by omega
 | k + 1, p, h, i, h1, h2 => by
  unfold jE at h
  by_cases hp : jErr js n p = 0
  ·rw [decide_eq_true hp, cond_true] at h
   rcases Nat.eq_or_lt_of_le h1 with e | e
   ·exact e ▸ hp
   ·exact je_all h i e (by omega)
  ·rw [decide_eq_false hp, cond_false] at h
   exact absurd h hp
theorem rerr_je {js : Nat → J} {ms : Nat → Ms} {n m : Nat} (h : rErr js ms n m = 0) : jE js n n 0 = 0 := by
 have hn := rerr_n h
 unfold rErr at h
 rw [decide_eq_false (show ¬ (n : Int) = 0 by omega), decide_eq_false (show ¬ 10 < (n : Int) by omega), cond_false, cond_false] at h
 by_cases hj : jE js n n 0 = 0
 ·exact hj
 ·rw [decide_eq_false hj, cond_false] at h; exact h
theorem rerr_par {js : Nat → J} {ms : Nat → Ms} {n m : Nat} (h : rErr js ms n m = 0) : ∀ i, i < n → -1 ≤ (js i).parent ∧ (js i).parent < (i : Int) := fun i hi =>
 cj_par (jerr_cj (je_all (rerr_je h) i (Nat.zero_le _) (by omega)))
def jl (js : Nat → J) (n : Nat) : List J := (List.range n).map js
def ml (ms : Nat → Ms) (m : Nat) : List Ms := (List.range m).map ms
def bl (bx : Nat → Iv) (k : Nat) : List Iv := (List.range k).map bx
theorem jl_e (js : Nat → J) (n : Nat) : (jl js n).map jp = (List.range n).map (fJ js) := by unfold jl; rw [List.map_map]; rfl
theorem ml_e (ms : Nat → Ms) (m : Nat) : (ml ms m).map mp = (List.range m).map (fM ms) := by unfold ml; rw [List.map_map]; rfl
theorem bl_e (bx : Nat → Iv) (k : Nat) : (bl bx k).map Rx.ivC = (List.range k).map (fB bx) := by unfold bl; rw [List.map_map]; rfl
theorem jl_len (js : Nat → J) (n : Nat) : (jl js n).length = n := by simp [jl]
theorem ml_len (ms : Nat → Ms) (m : Nat) : (ml ms m).length = m := by simp [ml]
theorem bl_len (bx : Nat → Iv) (k : Nat) : (bl bx k).length = k := by simp [bl]
theorem jl_at {js : Nat → J} {n i : Nat} {j : J} (h : (jl js n)[i]? = some j) : i < n ∧ j = js i := by
 have hl := (List.getElem?_eq_some_iff.1 h).1
 rw [jl_len] at hl
 unfold jl at h
 rw [List.getElem?_map, List.getElem?_range hl] at h
 cases h
 exact ⟨hl, rfl⟩
theorem rob_lf {js : Nat → J} {ms : Nat → Ms} {n m : Nat} {F : Nat → Prop} {w : World} {v : Value} (hF : ∀ k, F k → k < w.heap.size) (h : RP F w (.a [.lf n (fJ js), .lf m (fM ms)]) v) : ∃ aj cj am cm, v = .agg #[.slice aj n cj, .slice am m cm] ∧ SlcIs 12 aj ((jl js n).map jc) w ∧ SlcIs 5 am ((ml ms m).map mc) w := by
 obtain ⟨vs, rfl, ha⟩ := rp_parts h
 obtain ⟨v1, vs, rfl, h1, ha⟩ := qYK ha
 obtain ⟨v2, vs, rfl, h2, ha⟩ := qYK ha
 obtain rfl := al_unnil ha
 obtain ⟨aj, cj, rfl, _, hj⟩ := slc_told (sz := 12) (g := jc) (fun _ => rfl) (fun _ => rfl) (jl_len js n) hF (rp_l_lf (jl_e js n) h1)
 obtain ⟨am, cm, rfl, _, hm⟩ := slc_told (sz := 5) (g := mc) (fun _ => rfl) (fun _ => rfl) (ml_len ms m) hF (rp_l_lf (ml_e ms m) h2)
 exact ⟨aj, cj, am, cm, rfl, hj, hm⟩
theorem box_lf {bx : Nat → Iv} {k : Nat} {F : Nat → Prop} {w : World} {v : Value} (hF : ∀ k, F k → k < w.heap.size) (h : RP F w (.lf k (fB bx)) v) : ∃ a c, v = .slice a k c ∧ SlcIs 2 a ((bl bx k).map ivc) w := by
 obtain ⟨a, c, rfl, _, hS⟩ := slc_told (sz := 2) (g := ivc) (fun _ => rfl) (fun _ => rfl) (bl_len bx k) hF (rp_l_lf (bl_e bx k) h)
 exact ⟨a, c, rfl, hS⟩
def LK (js : Nat → J) (bx : Nat → Iv) (n : Nat) : List Po := lks (jl js n) (bl bx n) n
def LP (js : Nat → J) (bx : Nat → Iv) (n : Nat) : Nat → Po := fun i => (LK js bx n).getD i Po.rest
def fP (P : Nat → Po) : Nat → List PV := fun v => Rx.poC (P v)
theorem LK_len (js : Nat → J) (bx : Nat → Iv) (n : Nat) : (LK js bx n).length = n := lks_len _ (by rw [jl_len]; exact Nat.le_refl _) (by rw [bl_len]; exact Nat.le_refl _)
theorem LK_e (js : Nat → J) (bx : Nat → Iv) (n : Nat) : (LK js bx n).map Rx.poC = (List.range n).map (fP (LP js bx n)) := by
 have := rows_fn Po.rest Rx.poC (LK js bx n)
 rw [LK_len] at this
 exact this
theorem snd_kl (js : Nat → J) (ms : Nat → Ms) (bx : Nat → Iv) (n m : Nat) (hn : n ≤ 1000) (hp : ∀ i, i < n → -1 ≤ (js i).parent ∧ (js i).parent < (i : Int)) : SndA1 Tryz.prog 65 [.a [.lf n (fJ js), .lf m (fM ms)], .lf n (fB bx)] (.v (.lf n (fP (LP js bx n)))) := by
 refine snd_res (Same.lf (LK_e js bx n)) (snd_told (X := Nat) (Φ := fun _ => True) (V := fun b => .slice (some ⟨b, 0, none⟩) n n) (G := fun b => SlcIs 24 (some ⟨b, 0, none⟩) ((LK js bx n).map pc)) (zZ Tryz.func65 (by kernel_rfl) (by kernel_rfl)) (fun w F vals hF hal => ?_) (fun x w D F hP hG hd hF => rp_told (g := pc) (sz := 24) (fun _ => rfl) (fun _ => rfl) (LK_len js bx n) (Nat.le_refl _) (by decide) hd hG (fun _ h => h) hF))
 obtain ⟨v1, vs, rfl, h1, hal⟩ := qYK hal
 obtain ⟨v2, vs, rfl, h2, hal⟩ := qYK hal
 obtain rfl := al_unnil hal
 obtain ⟨aj, cj, am, cm, rfl, hj, hm'⟩ := rob_lf hF h1
 obtain ⟨ab, cb, rfl, hS⟩ := box_lf hF h2
 exact kLinks aj am ab cj m cm cb n (jl js n) (bl bx n) hn (jl_len js n) (bl_len bx n) (fun i j h => by obtain ⟨hi, rfl⟩ := jl_at h; exact hp i hi) w hj hS
theorem snd_rl (js : Nat → J) (ms : Nat → Ms) (bx : Nat → Iv) (n m : Nat) (h0 : rErr js ms n m = 0) (hv : allV bx n = true) : SndA1 Tryz.prog 36 [.a [.lf n (fJ js), .lf m (fM ms)], .lf n (fB bx)] (.v (.lf n (fP (LP js bx n)))) := by
 have hn := rerr_n h0
 have hp := rerr_par h0
 have hl : ((LK js bx n).map Rx.poC).length = n := by rw [List.length_map]; exact LK_len js bx n
 refine snd_res (Same.lf (LK_e js bx n)) (snd_own (e := 77) (sz := 24) (snd_toldOw (Φ := fun _ => True) (rows := (LK js bx n).map Rx.poC) (zZ Tryz.func36 (by kernel_rfl) (by kernel_rfl)) (flat_map (fun _ => rfl) _) (by decide) (fun w F vals hF hal => ?_)))
 have hal0 := hal
 obtain ⟨v1, vs, rfl, h1, hal⟩ := qYK hal
 obtain ⟨v2, vs, rfl, h2, hal⟩ := qYK hal
 obtain rfl := al_unnil hal
 have up : ∀ w' : World, Grow w w' → ∀ {p : PV} {v : Value}, RP F w p v → RP (fun k => k < w'.heap.size) w' p v := fun w' g p v h => h.mono fun k hk => ⟨Nat.lt_of_lt_of_le (hF k hk) g.size, g.block k (hF k hk)⟩
 have hC := fun (w' : World) (g : Grow w w') => rets_of_sndR (w := w') (snd_crf js ms n m) rfl (qWW (up w' g h1) al_nil)
 have hB := fun (w' : World) (g : Grow w w') => rets_of_sndR (w := w') (snd_isR js ms bx n m n (by omega)) rfl (qWW (up w' g h1) (qWW (up w' g h2) al_nil))
 obtain ⟨aj, cj, am, cm, rfl, hj, hm'⟩ := rob_lf hF h1
 obtain ⟨ab, cb, rfl, hS⟩ := box_lf hF h2
 rw [h0] at hC
 have hB' : isB bx n n = true := by unfold isB; rw [hv, decide_eq_true rfl]; rfl
 rw [hB'] at hB
 rw [hl, valRows_map (g := pc) (fun _ => rfl)]
 exact rLinks aj am ab cj m cm cb n (jl js n) (bl bx n) (by omega) (jl_len js n) (bl_len bx n) (fun i j h => by obtain ⟨hi, rfl⟩ := jl_at h; exact hp i hi) w hj hS hC hB
theorem snd_ka (js : Nat → J) (ms : Nat → Ms) (bx : Nat → Iv) (n m : Nat) (h0 : rErr js ms n m = 0) (hv : allV bx n = true) : SndA1 Tryz.prog 35 [.a [.lf n (fJ js), .lf m (fM ms)], .lf n (fB bx)] (.v (.lf n (fP (LP js bx n)))) := by
 have hn := rerr_n h0
 refine yV (N := 60) tabOk mixed (OrL.ok (l := [(64, qXH [.a [.lf n (fJ js), .lf m (fM ms)], .lf n (fB bx)] (.v (.b (isB bx n n)))), (43, qXH [.a [.lf n (fJ js), .lf m (fM ms)]] (.v (.n .i64 (rErr js ms n m)))), (65, qXH [.a [.lf n (fJ js), .lf m (fM ms)], .lf n (fB bx)] (.v (.lf n (fP (LP js bx n)))))]) ⟨qVJ (snd_isP js ms bx n m n (by omega)), qVJ (snd_chk js ms n m), qVJ (snd_kl js ms bx n m (by omega) (rerr_par h0)), trivial⟩) ?_
 refine (by kernel_rfl : _ = bif (g1 [.a [.lf n (fJ js), .lf m (fM ms)], .lf n (fB bx)]) then (bif (isB bx n n) then (bif (g1 [.a [.lf n (fJ js), .lf m (fM ms)]]) then (bif (!decide ((rErr js ms n m) = 0)) then some (.v (.l []), [])
 else bif (g1 [.a [.lf n (fJ js), .lf m (fM ms)], .lf n (fB bx)]) then some (.v (.lf n (fP (LP js bx n))), [])
 else none)
 else none)
 else some (.v (.l []), []))
 else none).trans ?_
 have hB' : isB bx n n = true := by unfold isB; rw [hv, decide_eq_true rfl]; rfl
 simp only [zYZ, hB', h0]
 rfl
end Go.Proofs.YtmbnpjpggccefaaGreat.Nf

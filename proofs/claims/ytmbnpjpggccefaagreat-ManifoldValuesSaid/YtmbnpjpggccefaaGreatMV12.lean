/- Part 12 of the texts behind the last one: rules and contracts. No condition. -/
import Derived.Test.YtmbnpjpggccefaaGreatMV11
namespace Go.Proofs.YtmbnpjpggccefaaGreat.Nb
open Go.Rx Rt Go.Sx Go.RowKit
open Ov Pc Na
def fJ (js : Nat → J) : Nat → List PV := fun v => jp (js v)
def fM (ms : Nat → Ms) : Nat → List PV := fun v => mp (ms v)
def fnd (js : Nat → J) (nm : ByteArray) : Nat → Nat → Int
 | 0, _ => -1
 | k + 1, p => bif ((js p).name.toList == nm.toList) then (p : Int) else fnd js nm k (p + 1)
def dup (js : Nat → J) (nm : ByteArray) : Nat → Nat → Bool
 | 0, _ => false
 | k + 1, p => ((js p).name.toList == nm.toList) || dup js nm k (p + 1)
theorem qUW {p n : Nat} (h : p < n) : inB (p : Int) n = true := by unfold inB; rw [decide_eq_true (show (0 : Int) ≤ p by omega), decide_eq_true (show (p : Int).toNat < n by omega)]; rfl
theorem zQY {p : Nat} (h : p < 1000000) : IntKind.i64.wrap ((p : Int) + 1) = ((p + 1 : Nat) : Int) := by rw [zW (by omega)]; omega
theorem toN (p : Nat) : (p : Int).toNat = p := by omega
def hF (js : Nat → J) (ms : Nat → Ms) (n m : Nat) (nm : ByteArray) (i : Int) : St := ⟨[(1, .v (.s nm)), (2, .p 2 0), (8, .v (.n .i64 (n : Int))), (9, .v (.n .i64 i))], [(2, .blk [.v (.lf n (fJ js)), .v (.lf m (fM ms))])]⟩
set_option maxRecDepth 100000 in
theorem rdF (G : St → Option (Ret × Mem)) (K : Cont) (js : Nat → J) (ms : Nat → Ms) (n m : Nat) (nm : ByteArray) (i : Int) : runCK 60 (cxF T (OrL.k ([] : OrL)) 60 124 (ntmF T 124)) (ckF T (OrL.k ([] : OrL)) 60) (jY T 124 [0, 1, 0, 1]) (fun e τ => match e with
 | .normal => G (prune ((cxF T (OrL.k ([] : OrL)) 60 124 (ntmF T 124)).T.hint (cxF T (OrL.k ([] : OrL)) 60 124 (ntmF T 124)).me (kK (jY T 124 [0, 1, 0, 1]))) τ)
 | e => K e (qVU ((cxF T (OrL.k ([] : OrL)) 60 124 (ntmF T 124)).T.hint (cxF T (OrL.k ([] : OrL)) 60 124 (ntmF T 124)).me (kK (jY T 124 [0, 1, 0, 1]))) τ)) (hF js ms n m nm i) =
 (bif (decide (i < (n : Int))) then (bif (inB i n) then (bif ((js (i).toNat).name.toList == nm.toList) then (K .ret ⟨[(4, .v (.n .i64 i))], []⟩)
 else (G (hF js ms n m nm (IntKind.i64.wrap (i + 1)))))
 else none)
 else (K (.exit 0) ⟨[], []⟩)) := by kernel_rfl
theorem lpF (K : Cont) (js : Nat → J) (ms : Nat → Ms) (n m : Nat) (nm : ByteArray) (hn : n ≤ 1000) : ∀ (k p q : Nat), p + k = n → k < q → LF 60 (cxF T (OrL.k ([] : OrL)) 60 124 (ntmF T 124)) (ckF T (OrL.k ([] : OrL)) 60) (jY T 124 [0, 1, 0, 1]) ((cxF T (OrL.k ([] : OrL)) 60 124 (ntmF T 124)).T.hint (cxF T (OrL.k ([] : OrL)) 60 124 (ntmF T 124)).me (kK (jY T 124 [0, 1, 0, 1]))) K q (hF js ms n m nm p) = (bif decide (fnd js nm k p = -1) then K (.exit 0) ⟨[], []⟩ else K .ret ⟨[(4, .v (.n .i64 (fnd js nm k p)))], []⟩)
 | 0, p, q + 1, hp, hq => by
  refine (rdF (fun σ => LF 60 (cxF T (OrL.k ([] : OrL)) 60 124 (ntmF T 124)) (ckF T (OrL.k ([] : OrL)) 60) (jY T 124 [0, 1, 0, 1]) ((cxF T (OrL.k ([] : OrL)) 60 124 (ntmF T 124)).T.hint (cxF T (OrL.k ([] : OrL)) 60 124 (ntmF T 124)).me (kK (jY T 124 [0, 1, 0, 1]))) K q σ) K js ms n m nm p).trans ?_
  rw [decide_eq_false (show ¬ (p : Int) < (n : Int) by omega)]
  rfl
 | k + 1, p, q + 1, hp, hq => by
  refine (rdF (fun σ => LF 60 (cxF T (OrL.k ([] : OrL)) 60 124 (ntmF T 124)) (ckF T (OrL.k ([] : OrL)) 60) (jY T 124 [0, 1, 0, 1]) ((cxF T (OrL.k ([] : OrL)) 60 124 (ntmF T 124)).T.hint (cxF T (OrL.k ([] : OrL)) 60 124 (ntmF T 124)).me (kK (jY T 124 [0, 1, 0, 1]))) K q σ) K js ms n m nm p).trans ?_
  rw [decide_eq_true (show (p : Int) < (n : Int) by omega), qUW (show p < n by omega), zQY (by omega), lpF K js ms n m nm hn k (p + 1) q (by omega) (by omega), toN]
  by_cases hq : ((js p).name.toList == nm.toList) = true
  ·simp only [fnd, hq, cond_true, decide_eq_false (show ¬ (p : Int) = -1 by omega), cond_false]
  ·rw [Bool.not_eq_true] at hq
   simp only [fnd, hq, cond_true, cond_false]
set_option maxRecDepth 100000 in
theorem pxF (js : Nat → J) (ms : Nat → Ms) (n m : Nat) (nm : ByteArray) : runKL T (OrL.k ([] : OrL)) (qJJ [([0, 1, 0, 1], sumAt (hF js ms n m nm 0) (fun K => (bif decide (fnd js nm n 0 = -1) then K (.exit 0) ⟨[], []⟩ else K .ret ⟨[(4, .v (.n .i64 (fnd js nm n 0)))], []⟩)))]) 60 124 [(.a [.lf n (fJ js), .lf m (fM ms)]), .s nm] =
 bif gSt (hF js ms n m nm 0) (hF js ms n m nm 0) then (bif decide (fnd js nm n 0 = -1) then some (.v (.n .i64 (-1)), []) else some (.v (.n .i64 (fnd js nm n 0)), [])) else none := by kernel_rfl
theorem snd_find (js : Nat → J) (ms : Nat → Ms) (n m : Nat) (nm : ByteArray) (hn : n ≤ 50) : SndA1 Tryz.prog 124 [(.a [.lf n (fJ js), .lf m (fM ms)]), .s nm] (.v (.n .i64 (fnd js nm n 0))) := by
 refine qZY (N := 60) (LO := qJJ [([0, 1, 0, 1], sumAt (hF js ms n m nm 0) (fun K => (bif decide (fnd js nm n 0 = -1) then K (.exit 0) ⟨[], []⟩ else K .ret ⟨[(4, .v (.n .i64 (fnd js nm n 0)))], []⟩)))]) tabOk mixed (OrL.ok (l := []) trivial) (fun p S hp => ?_) ?_
 ·refine qJY (L := jY T 124) (l := [([0, 1, 0, 1], sumAt (hF js ms n m nm 0) (fun K => (bif decide (fnd js nm n 0 = -1) then K (.exit 0) ⟨[], []⟩ else K .ret ⟨[(4, .v (.n .i64 (fnd js nm n 0)))], []⟩)))]) (show AllP _ [([0, 1, 0, 1], sumAt (hF js ms n m nm 0) (fun K => (bif decide (fnd js nm n 0 = -1) then K (.exit 0) ⟨[], []⟩ else K .ret ⟨[(4, .v (.n .i64 (fnd js nm n 0)))], []⟩)))] from ⟨qKG fun K r hr => ?_, trivial⟩) p S hp
  exact (lpF K js ms n m nm (by omega) n 0 60 (by omega) (by omega)).trans hr
 ·refine (pxF js ms n m nm).trans ?_
  rw [qUJ, cond_true]
  by_cases h : fnd js nm n 0 = -1
  ·rw [decide_eq_true h, h]; rfl
  ·rw [decide_eq_false h]; rfl
theorem fnd_dup (js : Nat → J) (i : Nat) : ∀ (k p : Nat), p ≤ i → i < p + k → (fnd js (js i).name k p = (i : Int) ↔ dup js (js i).name (i - p) p = false)
 | 0, p, h1, h2 => by omega
 | k + 1, p, h1, h2 => by
  by_cases he : p = i
  ·subst he
   rw [Nat.sub_self]
   simp [fnd, dup]
  ·have ih := fnd_dup js i k (p + 1) (by omega) (by omega)
   rw [show i - p = (i - (p + 1)) + 1 by omega]
   simp only [fnd, dup]
   cases ((js p).name.toList == (js i).name.toList)
   ·simpa using ih
   ·simp; omega
def cpT {α : Type} (f : Int → α) (i : Int) (j : J) : α := (bif (decide (j.kind < 0)) then (f 803) else (bif (decide (6 < j.kind)) then (f 803) else (bif (decide (j.parent < (-1))) then (f 804) else (bif (decide (i ≤ j.parent)) then (f 804) else (bif (decide (j.off.x < (-4194304))) then (f 805) else (bif (decide (4194304 < j.off.x)) then (f 805) else (bif (decide (j.off.y < (-4194304))) then (f 805) else (bif (decide (4194304 < j.off.y)) then (f 805) else (bif (decide (j.off.z < (-4194304))) then (f 805) else (bif (decide (4194304 < j.off.z)) then (f 805) else (bif (decide (j.kind = 1)) then (bif (decide (j.hi < j.lo)) then (f 806) else (bif (decide (j.lo < (-524288))) then (f 806) else (bif (decide (524288 < j.hi)) then (f 806) else (bif (decide (1 ≤ j.weight)) then (bif (decide (j.weight ≤ 1024)) then (bif (decide (1 ≤ j.speed)) then (bif (decide (j.speed ≤ 1048576)) then (bif (decide (1 ≤ j.accel)) then (bif (decide (j.accel ≤ 1048576)) then (bif (decide (1 ≤ j.torque)) then (bif (decide (j.torque ≤ 1099511627776)) then (f 0) else (f 807)) else (f 807)) else (f 807)) else (f 807)) else (f 807)) else (f 807)) else (f 807)) else (f 807))))) else (bif (decide (j.kind = 2)) then (bif (decide (j.hi < j.lo)) then (f 806) else (bif (decide (j.lo < (-524288))) then (f 806) else (bif (decide (524288 < j.hi)) then (f 806) else (bif (decide (1 ≤ j.weight)) then (bif (decide (j.weight ≤ 1024)) then (bif (decide (1 ≤ j.speed)) then (bif (decide (j.speed ≤ 1048576)) then (bif (decide (1 ≤ j.accel)) then (bif (decide (j.accel ≤ 1048576)) then (bif (decide (1 ≤ j.torque)) then (bif (decide (j.torque ≤ 1099511627776)) then (f 0) else (f 807)) else (f 807)) else (f 807)) else (f 807)) else (f 807)) else (f 807)) else (f 807)) else (f 807))))) else (bif (decide (j.kind = 3)) then (bif (decide (j.hi < j.lo)) then (f 806) else (bif (decide (j.lo < (-524288))) then (f 806) else (bif (decide (524288 < j.hi)) then (f 806) else (bif (decide (1 ≤ j.weight)) then (bif (decide (j.weight ≤ 1024)) then (bif (decide (1 ≤ j.speed)) then (bif (decide (j.speed ≤ 1048576)) then (bif (decide (1 ≤ j.accel)) then (bif (decide (j.accel ≤ 1048576)) then (bif (decide (1 ≤ j.torque)) then (bif (decide (j.torque ≤ 1099511627776)) then (f 0) else (f 807)) else (f 807)) else (f 807)) else (f 807)) else (f 807)) else (f 807)) else (f 807)) else (f 807))))) else (bif (decide (j.kind = 4)) then (bif (decide (j.hi < j.lo)) then (f 806) else (bif (decide (j.lo < (-4194304))) then (f 806) else (bif (decide (4194304 < j.hi)) then (f 806) else (bif (decide (1 ≤ j.weight)) then (bif (decide (j.weight ≤ 1024)) then (bif (decide (1 ≤ j.speed)) then (bif (decide (j.speed ≤ 1048576)) then (bif (decide (1 ≤ j.accel)) then (bif (decide (j.accel ≤ 1048576)) then (bif (decide (1 ≤ j.torque)) then (bif (decide (j.torque ≤ 1099511627776)) then (f 0) else (f 807)) else (f 807)) else (f 807)) else (f 807)) else (f 807)) else (f 807)) else (f 807)) else (f 807))))) else (bif (decide (j.kind = 5)) then (bif (decide (j.hi < j.lo)) then (f 806) else (bif (decide (j.lo < (-4194304))) then (f 806) else (bif (decide (4194304 < j.hi)) then (f 806) else (bif (decide (1 ≤ j.weight)) then (bif (decide (j.weight ≤ 1024)) then (bif (decide (1 ≤ j.speed)) then (bif (decide (j.speed ≤ 1048576)) then (bif (decide (1 ≤ j.accel)) then (bif (decide (j.accel ≤ 1048576)) then (bif (decide (1 ≤ j.torque)) then (bif (decide (j.torque ≤ 1099511627776)) then (f 0) else (f 807)) else (f 807)) else (f 807)) else (f 807)) else (f 807)) else (f 807)) else (f 807)) else (f 807))))) else (bif (decide (j.kind = 6)) then (bif (decide (j.hi < j.lo)) then (f 806) else (bif (decide (j.lo < (-4194304))) then (f 806) else (bif (decide (4194304 < j.hi)) then (f 806) else (bif (decide (1 ≤ j.weight)) then (bif (decide (j.weight ≤ 1024)) then (bif (decide (1 ≤ j.speed)) then (bif (decide (j.speed ≤ 1048576)) then (bif (decide (1 ≤ j.accel)) then (bif (decide (j.accel ≤ 1048576)) then (bif (decide (1 ≤ j.torque)) then (bif (decide (j.torque ≤ 1099511627776)) then (f 0) else (f 807)) else (f 807)) else (f 807)) else (f 807)) else (f 807)) else (f 807)) else (f 807)) else (f 807))))) else (bif (decide (j.hi < j.lo)) then (f 806) else (bif (decide (j.lo < 0)) then (f 806) else (bif (decide (0 < j.hi)) then (f 806) else (bif (decide (1 ≤ j.weight)) then (bif (decide (j.weight ≤ 1024)) then (bif (decide (1 ≤ j.speed)) then (bif (decide (j.speed ≤ 1048576)) then (bif (decide (1 ≤ j.accel)) then (bif (decide (j.accel ≤ 1048576)) then (bif (decide (1 ≤ j.torque)) then (bif (decide (j.torque ≤ 1099511627776)) then (f 0) else (f 807)) else (f 807)) else (f 807)) else (f 807)) else (f 807)) else (f 807)) else (f 807)) else (f 807)))))))))))))))))))))
theorem cp_cj {α : Type} (f : Int → α) (i : Int) (j : J) : cpT f i j = cjT f i j := by
 unfold cpT cjT
 by_cases h0 : j.kind < 0
 ·simp only [decide_eq_true h0, cond_true]
 by_cases h6 : 6 < j.kind
 ·simp only [decide_eq_true h6, cond_true]
 rcases (by omega : j.kind = 0 ∨ j.kind = 1 ∨ j.kind = 2 ∨ j.kind = 3 ∨ j.kind = 4 ∨ j.kind = 5 ∨ j.kind = 6) with h | h | h | h | h | h | h
 ·simp only [decide_eq_true (show j.kind = 0 by omega), decide_eq_false (show ¬ j.kind = 1 by omega), decide_eq_false (show ¬ j.kind = 2 by omega), decide_eq_false (show ¬ j.kind = 3 by omega), decide_eq_false (show ¬ j.kind = 4 by omega), decide_eq_false (show ¬ j.kind = 5 by omega), decide_eq_false (show ¬ j.kind = 6 by omega), cond_true, cond_false]
 ·simp only [decide_eq_false (show ¬ j.kind = 0 by omega), decide_eq_true (show j.kind = 1 by omega), decide_eq_false (show ¬ j.kind = 2 by omega), decide_eq_false (show ¬ j.kind = 3 by omega), decide_eq_false (show ¬ j.kind = 4 by omega), decide_eq_false (show ¬ j.kind = 5 by omega), decide_eq_false (show ¬ j.kind = 6 by omega), cond_true, cond_false]
 ·simp only [decide_eq_false (show ¬ j.kind = 0 by omega), decide_eq_false (show ¬ j.kind = 1 by omega), decide_eq_true (show j.kind = 2 by omega), decide_eq_false (show ¬ j.kind = 3 by omega), decide_eq_false (show ¬ j.kind = 4 by omega), decide_eq_false (show ¬ j.kind = 5 by omega), decide_eq_false (show ¬ j.kind = 6 by omega), cond_true, cond_false]
 ·simp only [decide_eq_false (show ¬ j.kind = 0 by omega), decide_eq_false (show ¬ j.kind = 1 by omega), decide_eq_false (show ¬ j.kind = 2 by omega), decide_eq_true (show j.kind = 3 by omega), decide_eq_false (show ¬ j.kind = 4 by omega), decide_eq_false (show ¬ j.kind = 5 by omega), decide_eq_false (show ¬ j.kind = 6 by omega), cond_true, cond_false]
 ·simp only [decide_eq_false (show ¬ j.kind = 0 by omega), decide_eq_false (show ¬ j.kind = 1 by omega), decide_eq_false (show ¬ j.kind = 2 by omega), decide_eq_false (show ¬ j.kind = 3 by omega), decide_eq_true (show j.kind = 4 by omega), decide_eq_false (show ¬ j.kind = 5 by omega), decide_eq_false (show ¬ j.kind = 6 by omega), cond_true, cond_false]
 ·simp only [decide_eq_false (show ¬ j.kind = 0 by omega), decide_eq_false (show ¬ j.kind = 1 by omega), decide_eq_false (show ¬ j.kind = 2 by omega), decide_eq_false (show ¬ j.kind = 3 by omega), decide_eq_false (show ¬ j.kind = 4 by omega), decide_eq_true (show j.kind = 5 by omega), decide_eq_false (show ¬ j.kind = 6 by omega), cond_true, cond_false]
 ·simp only [decide_eq_false (show ¬ j.kind = 0 by omega), decide_eq_false (show ¬ j.kind = 1 by omega), decide_eq_false (show ¬ j.kind = 2 by omega), decide_eq_false (show ¬ j.kind = 3 by omega), decide_eq_false (show ¬ j.kind = 4 by omega), decide_eq_false (show ¬ j.kind = 5 by omega), decide_eq_true (show j.kind = 6 by omega), cond_true, cond_false]
def jErr (js : Nat → J) (n i : Nat) : Int := bif nmB (js i).name then (bif dup js (js i).name i 0 then 802 else cjT (fun e => e) i (js i)) else 802
noncomputable def zYU : List PV → Option (Bool × Ret) := fun ps => match ps with
 | [.s s] => some (true, .v (.b (nmB s)))
 | _ => none
theorem ok_tn : OneOk Tryz.prog 123 zYU := by
 intro ps r hh
 unfold zYU at hh
 split at hh
 ·simp only [Option.some.injEq, Prod.mk.injEq] at hh
  obtain ⟨_, rfl⟩ := hh
  exact snd_Tn _
 ·cases hh
theorem ok_rn : OneOk Tryz.prog 129 zYU := by
 intro ps r hh
 unfold zYU at hh
 split at hh
 ·simp only [Option.some.injEq, Prod.mk.injEq] at hh
  obtain ⟨_, rfl⟩ := hh
  exact snd_Rn _
 ·cases hh
noncomputable def o_fd (js : Nat → J) (ms : Nat → Ms) (n m : Nat) : List PV → Option (Bool × Ret) := fun ps => match ps with
 | [r, .s s] => some (gEq r (.a [.lf n (fJ js), .lf m (fM ms)]), .v (.n .i64 (fnd js s n 0)))
 | _ => none
theorem ok_fd (js : Nat → J) (ms : Nat → Ms) (n m : Nat) (hn : n ≤ 50) : OneOk Tryz.prog 124 (o_fd js ms n m) := by
 intro ps r hh
 unfold o_fd at hh
 split at hh
 ·simp only [Option.some.injEq, Prod.mk.injEq] at hh
  obtain ⟨hg, rfl⟩ := hh
  obtain rfl := zZV hg
  exact snd_find _ _ _ _ _ hn
 ·cases hh
set_option maxRecDepth 100000 in
theorem tr_cjp (js : Nat → J) (ms : Nat → Ms) (n m : Nat) (i : Int) : runK T (OrL.k [(123, zYU), (124, o_fd js ms n m)]) 60 79 [(.a [.lf n (fJ js), .lf m (fM ms)]), .n .i64 i] =
 bif inB i n then (bif nmB (js i.toNat).name then (bif gEq (.a [.lf n (fJ js), .lf m (fM ms)]) (.a [.lf n (fJ js), .lf m (fM ms)]) then (bif !decide (fnd js (js i.toNat).name n 0 = i) then some (.v (.n .i64 802), []) else cpT F_n i (js i.toNat)) else none) else some (.v (.n .i64 802), [])) else none := by kernel_rfl
theorem F_cj (i : Int) (j : J) : cjT F_n i j = F_n (cjT (fun e => e) i j) := by
 unfold cjT
 simp only [Bool.apply_cond F_n]
theorem snd_cjp (js : Nat → J) (ms : Nat → Ms) (n m : Nat) (hn : n ≤ 50) (i : Nat) (hi : i < n) : SndA1 Tryz.prog 79 [(.a [.lf n (fJ js), .lf m (fM ms)]), .n .i64 i] (.v (.n .i64 (jErr js n i))) := by
 refine uW (N := 60) tabOk mixed (OrL.ok (l := [(123, zYU), (124, o_fd js ms n m)]) ⟨ok_tn, ok_fd js ms n m hn, trivial⟩) ?_
 rw [tr_cjp, qUW hi, cond_true, toN, gEq_self, cond_true, cp_cj, F_cj]
 have hd := fnd_dup js i n 0 (by omega) (by omega)
 rw [Nat.sub_zero] at hd
 unfold jErr
 cases nmB (js i).name with
 | false => rfl
 | true =>
  cases hq : dup js (js i).name i 0 with
  | false => rw [decide_eq_true (hd.2 hq)]; rfl
  | true => rw [decide_eq_false (fun h => by rw [hd.1 h] at hq; cases hq)]; rfl
def hC (js : Nat → J) (n : Nat) (i : Int) (k : Int) : St := ⟨[(0, .v (.lf n (fJ js))), (1, .v (.n .i64 i)), (5, .p 5 0), (6, .v (.n .i64 k))], [(5, .blk [.v (.s (js (i).toNat).name), .v (.n .i64 (js (i).toNat).kind), .v (.n .i64 (js (i).toNat).parent), .v (.n .i64 (js (i).toNat).off.x), .v (.n .i64 (js (i).toNat).off.y), .v (.n .i64 (js (i).toNat).off.z), .v (.n .i64 (js (i).toNat).lo), .v (.n .i64 (js (i).toNat).hi), .v (.n .i64 (js (i).toNat).weight), .v (.n .i64 (js (i).toNat).speed), .v (.n .i64 (js (i).toNat).accel), .v (.n .i64 (js (i).toNat).torque)])]⟩
set_option maxRecDepth 100000 in
theorem rdC (G : St → Option (Ret × Mem)) (K : Cont) (js : Nat → J) (n : Nat) (i : Int) (k : Int) : runCK 60 (cxF T (OrL.k [(129, zYU)]) 60 84 (ntmF T 84)) (ckF T (OrL.k [(129, zYU)]) 60) (jY T 84 [0, 1, 0, 1, 1, 1]) (fun e τ => match e with
 | .normal => G (prune ((cxF T (OrL.k [(129, zYU)]) 60 84 (ntmF T 84)).T.hint (cxF T (OrL.k [(129, zYU)]) 60 84 (ntmF T 84)).me (kK (jY T 84 [0, 1, 0, 1, 1, 1]))) τ)
 | e => K e (qVU ((cxF T (OrL.k [(129, zYU)]) 60 84 (ntmF T 84)).T.hint (cxF T (OrL.k [(129, zYU)]) 60 84 (ntmF T 84)).me (kK (jY T 84 [0, 1, 0, 1, 1, 1]))) τ)) (hC js n i k) =
 (bif (decide (k < i)) then (bif (inB k n) then (bif ((js (k).toNat).name.toList == (js (i).toNat).name.toList) then (K .ret ⟨[(1, .v (.n .i64 i)), (4, .v (.n .i64 802)), (5, .p 5 0)], [(5, .blk [.v (.s (js (i).toNat).name), .v (.n .i64 (js (i).toNat).kind), .v (.n .i64 (js (i).toNat).parent), .v (.n .i64 (js (i).toNat).off.x), .v (.n .i64 (js (i).toNat).off.y), .v (.n .i64 (js (i).toNat).off.z), .v (.n .i64 (js (i).toNat).lo), .v (.n .i64 (js (i).toNat).hi), .v (.n .i64 (js (i).toNat).weight), .v (.n .i64 (js (i).toNat).speed), .v (.n .i64 (js (i).toNat).accel), .v (.n .i64 (js (i).toNat).torque)])]⟩)
 else (G (hC js n i (IntKind.i64.wrap (k + 1)))))
 else none)
 else (K (.exit 0) ⟨[(1, .v (.n .i64 i)), (5, .p 5 0)], [(5, .blk [.v (.s (js (i).toNat).name), .v (.n .i64 (js (i).toNat).kind), .v (.n .i64 (js (i).toNat).parent), .v (.n .i64 (js (i).toNat).off.x), .v (.n .i64 (js (i).toNat).off.y), .v (.n .i64 (js (i).toNat).off.z), .v (.n .i64 (js (i).toNat).lo), .v (.n .i64 (js (i).toNat).hi), .v (.n .i64 (js (i).toNat).weight), .v (.n .i64 (js (i).toNat).speed), .v (.n .i64 (js (i).toNat).accel), .v (.n .i64 (js (i).toNat).torque)])]⟩)) := by kernel_rfl
def rC (js : Nat → J) (i : Int) : St := ⟨[(1, .v (.n .i64 i)), (4, .v (.n .i64 802)), (5, .p 5 0)], [(5, .blk [.v (.s (js (i).toNat).name), .v (.n .i64 (js (i).toNat).kind), .v (.n .i64 (js (i).toNat).parent), .v (.n .i64 (js (i).toNat).off.x), .v (.n .i64 (js (i).toNat).off.y), .v (.n .i64 (js (i).toNat).off.z), .v (.n .i64 (js (i).toNat).lo), .v (.n .i64 (js (i).toNat).hi), .v (.n .i64 (js (i).toNat).weight), .v (.n .i64 (js (i).toNat).speed), .v (.n .i64 (js (i).toNat).accel), .v (.n .i64 (js (i).toNat).torque)])]⟩
def oC (js : Nat → J) (i : Int) : St := ⟨[(1, .v (.n .i64 i)), (5, .p 5 0)], [(5, .blk [.v (.s (js (i).toNat).name), .v (.n .i64 (js (i).toNat).kind), .v (.n .i64 (js (i).toNat).parent), .v (.n .i64 (js (i).toNat).off.x), .v (.n .i64 (js (i).toNat).off.y), .v (.n .i64 (js (i).toNat).off.z), .v (.n .i64 (js (i).toNat).lo), .v (.n .i64 (js (i).toNat).hi), .v (.n .i64 (js (i).toNat).weight), .v (.n .i64 (js (i).toNat).speed), .v (.n .i64 (js (i).toNat).accel), .v (.n .i64 (js (i).toNat).torque)])]⟩
theorem lpC (K : Cont) (js : Nat → J) (n i : Nat) (hn : n ≤ 1000) (hi : i < n) : ∀ (k p q : Nat), p + k = i → k < q → LF 60 (cxF T (OrL.k [(129, zYU)]) 60 84 (ntmF T 84)) (ckF T (OrL.k [(129, zYU)]) 60) (jY T 84 [0, 1, 0, 1, 1, 1]) ((cxF T (OrL.k [(129, zYU)]) 60 84 (ntmF T 84)).T.hint (cxF T (OrL.k [(129, zYU)]) 60 84 (ntmF T 84)).me (kK (jY T 84 [0, 1, 0, 1, 1, 1]))) K q (hC js n i p) = bif dup js (js i).name k p then (K .ret (rC js i)) else (K (.exit 0) (oC js i))
 | 0, p, q + 1, hp, hq => by
  refine (rdC (fun σ => LF 60 (cxF T (OrL.k [(129, zYU)]) 60 84 (ntmF T 84)) (ckF T (OrL.k [(129, zYU)]) 60) (jY T 84 [0, 1, 0, 1, 1, 1]) ((cxF T (OrL.k [(129, zYU)]) 60 84 (ntmF T 84)).T.hint (cxF T (OrL.k [(129, zYU)]) 60 84 (ntmF T 84)).me (kK (jY T 84 [0, 1, 0, 1, 1, 1]))) K q σ) K js n i p).trans ?_
  rw [decide_eq_false (show ¬ (p : Int) < (i : Int) by omega)]
  rfl
 | k + 1, p, q + 1, hp, hq => by
  refine (rdC (fun σ => LF 60 (cxF T (OrL.k [(129, zYU)]) 60 84 (ntmF T 84)) (ckF T (OrL.k [(129, zYU)]) 60) (jY T 84 [0, 1, 0, 1, 1, 1]) ((cxF T (OrL.k [(129, zYU)]) 60 84 (ntmF T 84)).T.hint (cxF T (OrL.k [(129, zYU)]) 60 84 (ntmF T 84)).me (kK (jY T 84 [0, 1, 0, 1, 1, 1]))) K q σ) K js n i p).trans ?_
  rw [decide_eq_true (show (p : Int) < (i : Int) by omega), qUW (show p < n by omega), zQY (by omega), lpC K js n i hn hi k (p + 1) q (by omega) (by omega), toN, toN]
  simp only [cond_true, dup]
  cases ((js p).name.toList == (js i).name.toList) <;> rfl
set_option maxRecDepth 100000 in
theorem pxC (js : Nat → J) (n : Nat) (i : Int) : runKL T (OrL.k [(129, zYU)]) (qJJ [([0, 1, 0, 1, 1, 1], sumAt (hC js n i 0) (fun K => bif dup js (js i.toNat).name i.toNat 0 then (K .ret (rC js i)) else (K (.exit 0) (oC js i))))]) 60 84 [.lf n (fJ js), .n .i64 i] =
 bif inB i n then (bif nmB (js i.toNat).name then (bif gSt (hC js n i 0) (hC js n i 0) then (bif dup js (js i.toNat).name i.toNat 0 then some (.v (.n .i64 802), []) else cjT F_n i (js i.toNat)) else none) else some (.v (.n .i64 802), [])) else none := by kernel_rfl
theorem snd_cjr (js : Nat → J) (n : Nat) (hn : n ≤ 50) (i : Nat) (hi : i < n) : SndA1 Tryz.prog 84 [.lf n (fJ js), .n .i64 i] (.v (.n .i64 (jErr js n i))) := by
 refine qZY (N := 60) (LO := qJJ [([0, 1, 0, 1, 1, 1], sumAt (hC js n (i : Int) 0) (fun K => bif dup js (js (i : Int).toNat).name (i : Int).toNat 0 then (K .ret (rC js i)) else (K (.exit 0) (oC js i))))]) tabOk mixed (OrL.ok (l := [(129, zYU)]) ⟨ok_rn, trivial⟩) (fun p S hp => ?_) ?_
 ·refine qJY (L := jY T 84) (l := [([0, 1, 0, 1, 1, 1], sumAt (hC js n (i : Int) 0) (fun K => bif dup js (js (i : Int).toNat).name (i : Int).toNat 0 then (K .ret (rC js i)) else (K (.exit 0) (oC js i))))]) (show AllP _ [([0, 1, 0, 1, 1, 1], sumAt (hC js n (i : Int) 0) (fun K => bif dup js (js (i : Int).toNat).name (i : Int).toNat 0 then (K .ret (rC js i)) else (K (.exit 0) (oC js i))))] from ⟨qKG fun K r hr => ?_, trivial⟩) p S hp
  have := lpC K js n i (by omega) hi i 0 60 (by omega) (by omega)
  rw [toN] at hr
  exact this.trans hr
 ·refine (pxC js n i).trans ?_
  rw [qUW hi, cond_true, toN, qUJ, cond_true, F_cj]
  unfold jErr
  cases nmB (js i).name <;> cases dup js (js i).name i 0 <;> rfl
end Go.Proofs.YtmbnpjpggccefaaGreat.Nb
namespace Go.Proofs.YtmbnpjpggccefaaGreat.Nc
open Go.Rx Rt Go.Sx Go.RowKit
open Ov Pc Na Nb
def MOK (n : Nat) (q : Ms) : Prop := (0 ≤ q.link ∧ q.link < n) ∧ (1 ≤ q.mass ∧ q.mass ≤ 65536) ∧ (-4194304 ≤ q.p.x ∧ q.p.x ≤ 4194304) ∧ (-4194304 ≤ q.p.y ∧ q.p.y ≤ 4194304) ∧ (-4194304 ≤ q.p.z ∧ q.p.z ≤ 4194304)
instance (n : Nat) (q : Ms) : Decidable (MOK n q) := by unfold MOK; exact inferInstance
def mokB (n : Nat) (q : Ms) : Bool := decide (MOK n q)
def mAll (ms : Nat → Ms) (n : Nat) : Nat → Nat → Bool
 | 0, _ => true
 | k + 1, p => mokB n (ms p) && mAll ms n k (p + 1)
def fbad (ms : Nat → Ms) (n : Nat) : Nat → Nat → Int
 | 0, _ => -1
 | k + 1, p => bif mokB n (ms p) then fbad ms n k (p + 1) else (p : Int)
theorem fbad_all (ms : Nat → Ms) (n : Nat) : ∀ k p, decide (0 ≤ fbad ms n k p) = !mAll ms n k p
 | 0, p => rfl
 | k + 1, p => by
  have ih := fbad_all ms n k (p + 1)
  by_cases hq : mokB n (ms p) = true
  ·simp only [fbad, mAll, hq, cond_true, Bool.true_and]
   exact ih
  ·rw [Bool.not_eq_true] at hq
   simp only [fbad, mAll, hq, cond_false, Bool.false_and, Bool.not_false]
   exact decide_eq_true (by omega)
def jE (js : Nat → J) (n : Nat) : Nat → Nat → Int
 | 0, _ => 0
 | k + 1, p => bif decide (jErr js n p = 0) then jE js n k (p + 1) else jErr js n p
def rErr (js : Nat → J) (ms : Nat → Ms) (n m : Nat) : Int := bif decide ((n : Int) = 0) then 801 else bif decide (10 < (n : Int)) then 801 else bif decide (jE js n n 0 = 0) then (bif decide (32 < (m : Int)) then 808 else bif mAll ms n m 0 then 0 else 808) else jE js n n 0
def mTp {α : Type} (n : Nat) (q : Ms) (a b : α) : α := (bif (decide (0 ≤ q.link)) then (bif (decide (q.link < (n : Int))) then (bif (decide (1 ≤ q.mass)) then (bif (decide (q.mass ≤ 65536)) then (bif (decide (q.p.x < (-4194304))) then b else (bif (decide (4194304 < q.p.x)) then b else (bif (decide (q.p.y < (-4194304))) then b else (bif (decide (4194304 < q.p.y)) then b else (bif (decide (q.p.z < (-4194304))) then b else (bif (decide (4194304 < q.p.z)) then b else a)))))) else b) else b) else b) else b)
theorem mTp_eq {α : Type} (n : Nat) (q : Ms) (a b : α) : mTp n q a b = bif mokB n q then a else b := by
 unfold mTp mokB
 by_cases h : MOK n q
 ·have h' := h
  obtain ⟨⟨h1, h2⟩, ⟨h3, h4⟩, ⟨h5, h6⟩, ⟨h7, h8⟩, h9, h10⟩ := h'
  rw [decide_eq_true h]
  simp only [cond_true]
  simp only [Bool.cond_eq_ite, decide_eq_true_eq]
  repeat' split
  all_goals first | rfl | (exfalso; omega)
 ·rw [decide_eq_false h]
  unfold MOK at h
  simp only [cond_false]
  simp only [Bool.cond_eq_ite, decide_eq_true_eq]
  repeat' split
  all_goals first | rfl | (exfalso; omega) | contradiction
set_option maxRecDepth 100000 in
theorem tr_cl (js : Nat → J) (ms : Nat → Ms) (n m : Nat) (q : Ms) : runK T (OrL.k []) 60 81 [.a (mp q), .c [.lf n (fJ js), .lf m (fM ms)] 0] = mTp n q (F_b false) (F_b true) := by kernel_rfl
theorem snd_cl (js : Nat → J) (ms : Nat → Ms) (n m : Nat) (q : Ms) : SndA1 Tryz.prog 81 [.a (mp q), .c [.lf n (fJ js), .lf m (fM ms)] 0] (.v (.b (!mokB n q))) := by
 refine uW (N := 60) tabOk mixed (OrL.ok (l := []) trivial) ?_
 rw [tr_cl, mTp_eq]
 cases mokB n q <;> rfl
noncomputable def zJQ (js : Nat → J) (ms : Nat → Ms) (n m : Nat) : List PV → Option (Bool × Ret) := fun ps => match ps with
 | [.a [.n .i64 a0, .n .i64 a1, .n .i64 a2, .n .i64 a3, .n .i64 a4], c] => some (gEq c (.c [.lf n (fJ js), .lf m (fM ms)] 0), .v (.b (!mokB n ⟨a0, a1, ⟨a2, a3, a4⟩⟩)))
 | _ => none
theorem ok_cl (js : Nat → J) (ms : Nat → Ms) (n m : Nat) : OneOk Tryz.prog 81 (zJQ js ms n m) := by
 intro ps r hh
 unfold zJQ at hh
 split at hh
 ·simp only [Option.some.injEq, Prod.mk.injEq] at hh
  obtain ⟨hg, rfl⟩ := hh
  obtain rfl := zZV hg
  exact snd_cl js ms n m ⟨_, _, ⟨_, _, _⟩⟩
 ·cases hh
def hI (js : Nat → J) (ms : Nat → Ms) (n m : Nat) (i : Int) : St := ⟨[(0, .v (.lf m (fM ms))), (1, .v (.f 81 [] [.c [.lf n (fJ js), .lf m (fM ms)] 0])), (7, .v (.n .i64 (m : Int))), (8, .v (.n .i64 i))], []⟩
set_option maxRecDepth 100000 in
theorem rdI (G : St → Option (Ret × Mem)) (K : Cont) (js : Nat → J) (ms : Nat → Ms) (n m : Nat) (i : Int) : runCK 60 (cxF T (OrL.k [(81, zJQ js ms n m)]) 60 128 (ntmF T 128)) (ckF T (OrL.k [(81, zJQ js ms n m)]) 60) (jY T 128 [0, 1, 0, 1]) (fun e τ => match e with
 | .normal => G (prune ((cxF T (OrL.k [(81, zJQ js ms n m)]) 60 128 (ntmF T 128)).T.hint (cxF T (OrL.k [(81, zJQ js ms n m)]) 60 128 (ntmF T 128)).me (kK (jY T 128 [0, 1, 0, 1]))) τ)
 | e => K e (qVU ((cxF T (OrL.k [(81, zJQ js ms n m)]) 60 128 (ntmF T 128)).T.hint (cxF T (OrL.k [(81, zJQ js ms n m)]) 60 128 (ntmF T 128)).me (kK (jY T 128 [0, 1, 0, 1]))) τ)) (hI js ms n m i) =
 (bif (decide (i < (m : Int))) then (bif (inB i m) then (bif (gEq (.c [.lf n (fJ js), .lf m (fM ms)] 0) (.c [.lf n (fJ js), .lf m (fM ms)] 0)) then (bif (!mokB n (ms (i).toNat)) then (K .ret ⟨[(4, .v (.n .i64 i))], []⟩)
 else (G (hI js ms n m (IntKind.i64.wrap (i + 1)))))
 else none)
 else none)
 else (K (.exit 0) ⟨[], []⟩)) := by kernel_rfl
theorem lpI (K : Cont) (js : Nat → J) (ms : Nat → Ms) (n m : Nat) (hm : m ≤ 1000) : ∀ (k p q : Nat), p + k = m → k < q → LF 60 (cxF T (OrL.k [(81, zJQ js ms n m)]) 60 128 (ntmF T 128)) (ckF T (OrL.k [(81, zJQ js ms n m)]) 60) (jY T 128 [0, 1, 0, 1]) ((cxF T (OrL.k [(81, zJQ js ms n m)]) 60 128 (ntmF T 128)).T.hint (cxF T (OrL.k [(81, zJQ js ms n m)]) 60 128 (ntmF T 128)).me (kK (jY T 128 [0, 1, 0, 1]))) K q (hI js ms n m p) = (bif decide (fbad ms n k p = -1) then K (.exit 0) ⟨[], []⟩ else K .ret ⟨[(4, .v (.n .i64 (fbad ms n k p)))], []⟩)
 | 0, p, q + 1, hp, hq => by
  refine (rdI (fun σ => LF 60 (cxF T (OrL.k [(81, zJQ js ms n m)]) 60 128 (ntmF T 128)) (ckF T (OrL.k [(81, zJQ js ms n m)]) 60) (jY T 128 [0, 1, 0, 1]) ((cxF T (OrL.k [(81, zJQ js ms n m)]) 60 128 (ntmF T 128)).T.hint (cxF T (OrL.k [(81, zJQ js ms n m)]) 60 128 (ntmF T 128)).me (kK (jY T 128 [0, 1, 0, 1]))) K q σ) K js ms n m p).trans ?_
  rw [decide_eq_false (show ¬ (p : Int) < (m : Int) by omega)]
  rfl
 | k + 1, p, q + 1, hp, hq => by
  refine (rdI (fun σ => LF 60 (cxF T (OrL.k [(81, zJQ js ms n m)]) 60 128 (ntmF T 128)) (ckF T (OrL.k [(81, zJQ js ms n m)]) 60) (jY T 128 [0, 1, 0, 1]) ((cxF T (OrL.k [(81, zJQ js ms n m)]) 60 128 (ntmF T 128)).T.hint (cxF T (OrL.k [(81, zJQ js ms n m)]) 60 128 (ntmF T 128)).me (kK (jY T 128 [0, 1, 0, 1]))) K q σ) K js ms n m p).trans ?_
  rw [decide_eq_true (show (p : Int) < (m : Int) by omega), qUW (show p < m by omega), zQY (by omega), lpI K js ms n m hm k (p + 1) q (by omega) (by omega), toN, gEq_self]
  by_cases hq : mokB n (ms p) = true
  ·simp only [fbad, hq, cond_true, cond_false, Bool.not_true]
  ·rw [Bool.not_eq_true] at hq
   simp only [fbad, hq, cond_true, cond_false, Bool.not_false, decide_eq_false (show ¬ (p : Int) = -1 by omega)]
set_option maxRecDepth 100000 in
theorem pxI (js : Nat → J) (ms : Nat → Ms) (n m : Nat) : runKL T (OrL.k [(81, zJQ js ms n m)]) (qJJ [([0, 1, 0, 1], sumAt (hI js ms n m 0) (fun K => (bif decide (fbad ms n m 0 = -1) then K (.exit 0) ⟨[], []⟩ else K .ret ⟨[(4, .v (.n .i64 (fbad ms n m 0)))], []⟩)))]) 60 128 [.lf m (fM ms), .f 81 [] [.c [.lf n (fJ js), .lf m (fM ms)] 0]] =
 bif gSt (hI js ms n m 0) (hI js ms n m 0) then (bif decide (fbad ms n m 0 = -1) then some (.v (.n .i64 (-1)), []) else some (.v (.n .i64 (fbad ms n m 0)), [])) else none := by kernel_rfl
theorem snd_if (js : Nat → J) (ms : Nat → Ms) (n m : Nat) (hm : m ≤ 50) : SndA1 Tryz.prog 128 [.lf m (fM ms), .f 81 [] [.c [.lf n (fJ js), .lf m (fM ms)] 0]] (.v (.n .i64 (fbad ms n m 0))) := by
 refine qZY (N := 60) (LO := qJJ [([0, 1, 0, 1], sumAt (hI js ms n m 0) (fun K => (bif decide (fbad ms n m 0 = -1) then K (.exit 0) ⟨[], []⟩ else K .ret ⟨[(4, .v (.n .i64 (fbad ms n m 0)))], []⟩)))]) tabOk mixed (OrL.ok (l := [(81, zJQ js ms n m)]) ⟨ok_cl js ms n m, trivial⟩) (fun p S hp => ?_) ?_
 ·refine qJY (L := jY T 128) (l := [([0, 1, 0, 1], sumAt (hI js ms n m 0) (fun K => (bif decide (fbad ms n m 0 = -1) then K (.exit 0) ⟨[], []⟩ else K .ret ⟨[(4, .v (.n .i64 (fbad ms n m 0)))], []⟩)))]) (show AllP _ [([0, 1, 0, 1], sumAt (hI js ms n m 0) (fun K => (bif decide (fbad ms n m 0 = -1) then K (.exit 0) ⟨[], []⟩ else K .ret ⟨[(4, .v (.n .i64 (fbad ms n m 0)))], []⟩)))] from ⟨qKG fun K r hr => ?_, trivial⟩) p S hp
  exact (lpI K js ms n m (by omega) m 0 60 (by omega) (by omega)).trans hr
 ·refine (pxI js ms n m).trans ?_
  rw [qUJ, cond_true]
  by_cases h : fbad ms n m 0 = -1
  ·rw [decide_eq_true h, h]; rfl
  ·rw [decide_eq_false h]; rfl
noncomputable def g1 (l : List PV) : Bool := gEq (.t l) (.t l)
theorem zJZ (l : List PV) : g1 l = true := gEq_self _
noncomputable def zQK (as_ : List PV) (r : Ret) : List PV → Option (Bool × Ret) := fun ps => some (gEq (.t ps) (.t as_), r)
theorem qHG {f : Nat} {as_ : List PV} {r : Ret} (h : SndA1 Tryz.prog f as_ r) : OneOk Tryz.prog f (zQK as_ r) := by
 intro ps q hh
 unfold zQK at hh
 simp only [Option.some.injEq, Prod.mk.injEq] at hh
 obtain ⟨hg, rfl⟩ := hh
 have := zZV hg
 simp only [PV.t.injEq] at this
 rw [this]
 exact h
theorem snd_cf (js : Nat → J) (ms : Nat → Ms) (n m : Nat) (hm : m ≤ 50) : SndA1 Tryz.prog 80 [.lf m (fM ms), .f 81 [] [.c [.lf n (fJ js), .lf m (fM ms)] 0]] (.v (.b (!mAll ms n m 0))) := by
 refine uW (N := 60) tabOk mixed (OrL.ok (l := [(128, zQK [.lf m (fM ms), .f 81 [] [.c [.lf n (fJ js), .lf m (fM ms)] 0]] (.v (.n .i64 (fbad ms n m 0))))]) ⟨qHG (snd_if js ms n m hm), trivial⟩) ?_
 refine (by kernel_rfl : _ = bif (g1 [.lf m (fM ms), .f 81 [] [.c [.lf n (fJ js), .lf m (fM ms)] 0]]) then (bif (decide (0 ≤ (fbad ms n m 0))) then some (.v (.b true), [])
 else some (.v (.b false), []))
 else none).trans ?_
 rw [zJZ, cond_true, ← fbad_all]
 cases decide (0 ≤ fbad ms n m 0) <;> rfl
noncomputable def qHZ (js : Nat → J) (ms : Nat → Ms) (n m : Nat) : List PV → Option (Bool × Ret) := fun ps => match ps with
 | [r, .n .i64 i] => some (gEq r (.a [.lf n (fJ js), .lf m (fM ms)]) && (inB i n && decide (n ≤ 50)), .v (.n .i64 (jErr js n i.toNat)))
 | _ => none
theorem ok_o_cjp (js : Nat → J) (ms : Nat → Ms) (n m : Nat) : OneOk Tryz.prog 79 (qHZ js ms n m) := by
 intro ps r hh
 unfold qHZ at hh
 split at hh
 ·simp only [Option.some.injEq, Prod.mk.injEq, Bool.and_eq_true] at hh
  obtain ⟨⟨hg, hi, hd⟩, rfl⟩ := hh
  obtain rfl := zZV hg
  have hn := of_decide_eq_true hd
  obtain ⟨i0, i1⟩ := inB_spec hi
  rename_i i
  have := snd_cjp js ms n m hn i.toNat (by omega)
  rw [show ((i.toNat : Nat) : Int) = i by omega] at this
  exact this
 ·cases hh
noncomputable def qKW (js : Nat → J) (ms : Nat → Ms) (n m : Nat) : List PV → Option (Bool × Ret) := fun ps => match ps with
 | [r, .n .i64 i] => some (gEq r (.lf n (fJ js)) && (inB i n && decide (n ≤ 50)), .v (.n .i64 (jErr js n i.toNat)))
 | _ => none
theorem ok_o_cjr (js : Nat → J) (ms : Nat → Ms) (n m : Nat) : OneOk Tryz.prog 84 (qKW js ms n m) := by
 intro ps r hh
 unfold qKW at hh
 split at hh
 ·simp only [Option.some.injEq, Prod.mk.injEq, Bool.and_eq_true] at hh
  obtain ⟨⟨hg, hi, hd⟩, rfl⟩ := hh
  obtain rfl := zZV hg
  have hn := of_decide_eq_true hd
  obtain ⟨i0, i1⟩ := inB_spec hi
  rename_i i
  have := snd_cjr js n hn i.toNat (by omega)
  rw [show ((i.toNat : Nat) : Int) = i by omega] at this
  exact this
 ·cases hh
noncomputable def qHY (js : Nat → J) (ms : Nat → Ms) (n m : Nat) : List PV → Option (Bool × Ret) := fun ps => some (gEq (.t ps) (.t [.lf m (fM ms), .f 81 [] [.c [.lf n (fJ js), .lf m (fM ms)] 0]]) && decide (m ≤ 50), .v (.b (!mAll ms n m 0)))
theorem ok_cfm (js : Nat → J) (ms : Nat → Ms) (n m : Nat) : OneOk Tryz.prog 80 (qHY js ms n m) := by
 intro ps q hh
 unfold qHY at hh
 simp only [Option.some.injEq, Prod.mk.injEq, Bool.and_eq_true] at hh
 obtain ⟨⟨hg, hm⟩, rfl⟩ := hh
 have := zZV hg
 simp only [PV.t.injEq] at this
 rw [this]
 exact snd_cf js ms n m (of_decide_eq_true hm)
def hK (js : Nat → J) (ms : Nat → Ms) (n m : Nat) (i : Int) : St := ⟨[(1, .p 1 0), (17, .v (.n .i64 (n : Int))), (18, .v (.n .i64 i))], [(1, .blk [.v (.lf n (fJ js)), .v (.lf m (fM ms))])]⟩
set_option maxRecDepth 100000 in
theorem rdK (G : St → Option (Ret × Mem)) (K : Cont) (js : Nat → J) (ms : Nat → Ms) (n m : Nat) (i : Int) : runCK 60 (cxF T (OrL.k [(79, qHZ js ms n m), (80, qHY js ms n m)]) 60 43 (ntmF T 43)) (ckF T (OrL.k [(79, qHZ js ms n m), (80, qHY js ms n m)]) 60) (jY T 43 [0, 1, 0, 1, 1]) (fun e τ => match e with
 | .normal => G (prune ((cxF T (OrL.k [(79, qHZ js ms n m), (80, qHY js ms n m)]) 60 43 (ntmF T 43)).T.hint (cxF T (OrL.k [(79, qHZ js ms n m), (80, qHY js ms n m)]) 60 43 (ntmF T 43)).me (kK (jY T 43 [0, 1, 0, 1, 1]))) τ)
 | e => K e (qVU ((cxF T (OrL.k [(79, qHZ js ms n m), (80, qHY js ms n m)]) 60 43 (ntmF T 43)).T.hint (cxF T (OrL.k [(79, qHZ js ms n m), (80, qHY js ms n m)]) 60 43 (ntmF T 43)).me (kK (jY T 43 [0, 1, 0, 1, 1]))) τ)) (hK js ms n m i) =
 (bif (decide (i < (n : Int))) then (bif (gEq (.a [.lf n (fJ js), .lf m (fM ms)]) (.a [.lf n (fJ js), .lf m (fM ms)]) && (inB i n && decide (n ≤ 50))) then (bif (!decide ((jErr js n (i).toNat) = 0)) then (K .ret ⟨[(1, .p 1 0), (2, .v (.n .i64 (jErr js n (i).toNat)))], [(1, .blk [.v (.lf n (fJ js)), .v (.lf m (fM ms))])]⟩)
 else (G (hK js ms n m (IntKind.i64.wrap (i + 1)))))
 else none)
 else (K (.exit 0) ⟨[(1, .p 1 0)], [(1, .blk [.v (.lf n (fJ js)), .v (.lf m (fM ms))])]⟩)) := by kernel_rfl
def rK (js : Nat → J) (ms : Nat → Ms) (n m : Nat) (e : Int) : St := ⟨[(1, .p 1 0), (2, .v (.n .i64 e))], [(1, .blk [.v (.lf n (fJ js)), .v (.lf m (fM ms))])]⟩
def oK (js : Nat → J) (ms : Nat → Ms) (n m : Nat) : St := ⟨[(1, .p 1 0)], [(1, .blk [.v (.lf n (fJ js)), .v (.lf m (fM ms))])]⟩
theorem lpK (K : Cont) (js : Nat → J) (ms : Nat → Ms) (n m : Nat) (hn : n ≤ 10) : ∀ (k p q : Nat), p + k = n → k < q → LF 60 (cxF T (OrL.k [(79, qHZ js ms n m), (80, qHY js ms n m)]) 60 43 (ntmF T 43)) (ckF T (OrL.k [(79, qHZ js ms n m), (80, qHY js ms n m)]) 60) (jY T 43 [0, 1, 0, 1, 1]) ((cxF T (OrL.k [(79, qHZ js ms n m), (80, qHY js ms n m)]) 60 43 (ntmF T 43)).T.hint (cxF T (OrL.k [(79, qHZ js ms n m), (80, qHY js ms n m)]) 60 43 (ntmF T 43)).me (kK (jY T 43 [0, 1, 0, 1, 1]))) K q (hK js ms n m p) = (bif decide (jE js n k p = 0) then (K (.exit 0) (oK js ms n m)) else (K .ret (rK js ms n m (jE js n k p))))
 | 0, p, q + 1, hp, hq => by
  refine (rdK (fun σ => LF 60 (cxF T (OrL.k [(79, qHZ js ms n m), (80, qHY js ms n m)]) 60 43 (ntmF T 43)) (ckF T (OrL.k [(79, qHZ js ms n m), (80, qHY js ms n m)]) 60) (jY T 43 [0, 1, 0, 1, 1]) ((cxF T (OrL.k [(79, qHZ js ms n m), (80, qHY js ms n m)]) 60 43 (ntmF T 43)).T.hint (cxF T (OrL.k [(79, qHZ js ms n m), (80, qHY js ms n m)]) 60 43 (ntmF T 43)).me (kK (jY T 43 [0, 1, 0, 1, 1]))) K q σ) K js ms n m p).trans ?_
  rw [decide_eq_false (show ¬ (p : Int) < (n : Int) by omega)]
  rfl
 | k + 1, p, q + 1, hp, hq => by
  refine (rdK (fun σ => LF 60 (cxF T (OrL.k [(79, qHZ js ms n m), (80, qHY js ms n m)]) 60 43 (ntmF T 43)) (ckF T (OrL.k [(79, qHZ js ms n m), (80, qHY js ms n m)]) 60) (jY T 43 [0, 1, 0, 1, 1]) ((cxF T (OrL.k [(79, qHZ js ms n m), (80, qHY js ms n m)]) 60 43 (ntmF T 43)).T.hint (cxF T (OrL.k [(79, qHZ js ms n m), (80, qHY js ms n m)]) 60 43 (ntmF T 43)).me (kK (jY T 43 [0, 1, 0, 1, 1]))) K q σ) K js ms n m p).trans ?_
  rw [decide_eq_true (show (p : Int) < (n : Int) by omega), qUW (show p < n by omega), zQY (by omega), lpK K js ms n m hn k (p + 1) q (by omega) (by omega), toN, gEq_self, decide_eq_true (show n ≤ 50 by omega)]
  by_cases hq : jErr js n p = 0
  ·simp only [jE, decide_eq_true hq, cond_true, cond_false, Bool.not_true, Bool.and_self]
  ·simp only [jE, decide_eq_false hq, cond_true, cond_false, Bool.not_false, Bool.and_self]
   rfl
set_option maxRecDepth 100000 in
theorem pxK (js : Nat → J) (ms : Nat → Ms) (n m : Nat) : runKL T (OrL.k [(79, qHZ js ms n m), (80, qHY js ms n m)]) (qJJ [([0, 1, 0, 1, 1], sumAt (hK js ms n m 0) (fun K => bif decide (10 < (n : Int)) then none else (bif decide (jE js n n 0 = 0) then (K (.exit 0) (oK js ms n m)) else (K .ret (rK js ms n m (jE js n n 0))))))]) 60 43 [(.a [.lf n (fJ js), .lf m (fM ms)])] =
 bif decide ((n : Int) = 0) then some (.v (.n .i64 801), []) else (bif decide (10 < (n : Int)) then some (.v (.n .i64 801), []) else (bif gSt (hK js ms n m 0) (hK js ms n m 0) then (bif decide (10 < (n : Int)) then none else (bif decide (jE js n n 0 = 0) then bif (decide (32 < (m : Int))) then some (.v (.n .i64 808), [])
 else bif (g1 [.lf m (fM ms), .f 81 [] [.c [.lf n (fJ js), .lf m (fM ms)] 0]] && decide (m ≤ 50)) then (bif (!mAll ms n m 0) then some (.v (.n .i64 808), [])
 else some (.v (.n .i64 0), []))
 else none else some (.v (.n .i64 (jE js n n 0)), []))) else none)) := by kernel_rfl
theorem snd_chk (js : Nat → J) (ms : Nat → Ms) (n m : Nat) : SndA1 Tryz.prog 43 [(.a [.lf n (fJ js), .lf m (fM ms)])] (.v (.n .i64 (rErr js ms n m))) := by
 refine qZY (N := 60) (LO := qJJ [([0, 1, 0, 1, 1], sumAt (hK js ms n m 0) (fun K => bif decide (10 < (n : Int)) then none else (bif decide (jE js n n 0 = 0) then (K (.exit 0) (oK js ms n m)) else (K .ret (rK js ms n m (jE js n n 0))))))]) tabOk mixed (OrL.ok (l := [(79, qHZ js ms n m), (80, qHY js ms n m)]) ⟨ok_o_cjp js ms n m, ok_cfm js ms n m, trivial⟩) (fun p S hp => ?_) ?_
 ·refine qJY (L := jY T 43) (l := [([0, 1, 0, 1, 1], sumAt (hK js ms n m 0) (fun K => bif decide (10 < (n : Int)) then none else (bif decide (jE js n n 0 = 0) then (K (.exit 0) (oK js ms n m)) else (K .ret (rK js ms n m (jE js n n 0))))))]) (show AllP _ [([0, 1, 0, 1, 1], sumAt (hK js ms n m 0) (fun K => bif decide (10 < (n : Int)) then none else (bif decide (jE js n n 0 = 0) then (K (.exit 0) (oK js ms n m)) else (K .ret (rK js ms n m (jE js n n 0))))))] from ⟨qKG fun K r hr => ?_, trivial⟩) p S hp
  cases hq : decide (10 < (n : Int)) with
  | true => rw [hq] at hr; cases hr
  | false =>
   rw [hq] at hr
   have h10 := of_decide_eq_false hq
   exact (lpK K js ms n m (by omega) n 0 60 (by omega) (by omega)).trans hr
 ·refine (pxK js ms n m).trans ?_
  unfold rErr
  rw [qUJ, zJZ]
  by_cases h0 : (n : Int) = 0
  ·rw [decide_eq_true h0]; rfl
  rw [decide_eq_false h0]
  by_cases h10 : 10 < (n : Int)
  ·rw [decide_eq_true h10]; rfl
  rw [decide_eq_false h10]
  by_cases hj : jE js n n 0 = 0
  ·rw [decide_eq_true hj]
   by_cases h32 : 32 < (m : Int)
   ·rw [decide_eq_true h32]; rfl
   rw [decide_eq_false h32, decide_eq_true (show m ≤ 50 by omega)]
   cases mAll ms n m 0 <;> rfl
  ·rw [decide_eq_false hj]; rfl
def hQ (js : Nat → J) (ms : Nat → Ms) (n m : Nat) (i : Int) : St := ⟨[(1, .p 1 0), (3, .v (.n .i64 i))], [(1, .blk [.v (.lf n (fJ js)), .v (.lf m (fM ms))])]⟩
set_option maxRecDepth 100000 in
theorem rdQ (G : St → Option (Ret × Mem)) (K : Cont) (js : Nat → J) (ms : Nat → Ms) (n m : Nat) (i : Int) : runCK 60 (cxF T (OrL.k [(84, qKW js ms n m)]) 60 45 (ntmF T 45)) (ckF T (OrL.k [(84, qKW js ms n m)]) 60) (jY T 45 [0, 1, 0, 1, 1]) (fun e τ => match e with
 | .normal => G (prune ((cxF T (OrL.k [(84, qKW js ms n m)]) 60 45 (ntmF T 45)).T.hint (cxF T (OrL.k [(84, qKW js ms n m)]) 60 45 (ntmF T 45)).me (kK (jY T 45 [0, 1, 0, 1, 1]))) τ)
 | e => K e (qVU ((cxF T (OrL.k [(84, qKW js ms n m)]) 60 45 (ntmF T 45)).T.hint (cxF T (OrL.k [(84, qKW js ms n m)]) 60 45 (ntmF T 45)).me (kK (jY T 45 [0, 1, 0, 1, 1]))) τ)) (hQ js ms n m i) =
 (bif (decide (i < (n : Int))) then (bif (gEq (.lf n (fJ js)) (.lf n (fJ js)) && (inB i n && decide (n ≤ 50))) then (bif (!decide ((jErr js n (i).toNat) = 0)) then (K .ret ⟨[(1, .p 1 0), (2, .v (.n .i64 (jErr js n (i).toNat)))], [(1, .blk [.v (.lf n (fJ js)), .v (.lf m (fM ms))])]⟩)
 else (G (hQ js ms n m (IntKind.i64.wrap (i + 1)))))
 else none)
 else (K (.exit 0) ⟨[(1, .p 1 0)], [(1, .blk [.v (.lf n (fJ js)), .v (.lf m (fM ms))])]⟩)) := by kernel_rfl
def rQ (js : Nat → J) (ms : Nat → Ms) (n m : Nat) (e : Int) : St := ⟨[(1, .p 1 0), (2, .v (.n .i64 e))], [(1, .blk [.v (.lf n (fJ js)), .v (.lf m (fM ms))])]⟩
def oQ (js : Nat → J) (ms : Nat → Ms) (n m : Nat) : St := ⟨[(1, .p 1 0)], [(1, .blk [.v (.lf n (fJ js)), .v (.lf m (fM ms))])]⟩
theorem lpQ (K : Cont) (js : Nat → J) (ms : Nat → Ms) (n m : Nat) (hn : n ≤ 10) : ∀ (k p q : Nat), p + k = n → k < q → LF 60 (cxF T (OrL.k [(84, qKW js ms n m)]) 60 45 (ntmF T 45)) (ckF T (OrL.k [(84, qKW js ms n m)]) 60) (jY T 45 [0, 1, 0, 1, 1]) ((cxF T (OrL.k [(84, qKW js ms n m)]) 60 45 (ntmF T 45)).T.hint (cxF T (OrL.k [(84, qKW js ms n m)]) 60 45 (ntmF T 45)).me (kK (jY T 45 [0, 1, 0, 1, 1]))) K q (hQ js ms n m p) = (bif decide (jE js n k p = 0) then (K (.exit 0) (oQ js ms n m)) else (K .ret (rQ js ms n m (jE js n k p))))
 | 0, p, q + 1, hp, hq => by
  refine (rdQ (fun σ => LF 60 (cxF T (OrL.k [(84, qKW js ms n m)]) 60 45 (ntmF T 45)) (ckF T (OrL.k [(84, qKW js ms n m)]) 60) (jY T 45 [0, 1, 0, 1, 1]) ((cxF T (OrL.k [(84, qKW js ms n m)]) 60 45 (ntmF T 45)).T.hint (cxF T (OrL.k [(84, qKW js ms n m)]) 60 45 (ntmF T 45)).me (kK (jY T 45 [0, 1, 0, 1, 1]))) K q σ) K js ms n m p).trans ?_
  rw [decide_eq_false (show ¬ (p : Int) < (n : Int) by omega)]
  rfl
 | k + 1, p, q + 1, hp, hq => by
  refine (rdQ (fun σ => LF 60 (cxF T (OrL.k [(84, qKW js ms n m)]) 60 45 (ntmF T 45)) (ckF T (OrL.k [(84, qKW js ms n m)]) 60) (jY T 45 [0, 1, 0, 1, 1]) ((cxF T (OrL.k [(84, qKW js ms n m)]) 60 45 (ntmF T 45)).T.hint (cxF T (OrL.k [(84, qKW js ms n m)]) 60 45 (ntmF T 45)).me (kK (jY T 45 [0, 1, 0, 1, 1]))) K q σ) K js ms n m p).trans ?_
  rw [decide_eq_true (show (p : Int) < (n : Int) by omega), qUW (show p < n by omega), zQY (by omega), lpQ K js ms n m hn k (p + 1) q (by omega) (by omega), toN, gEq_self, decide_eq_true (show n ≤ 50 by omega)]
  by_cases hq : jErr js n p = 0
  ·simp only [jE, decide_eq_true hq, cond_true, cond_false, Bool.not_true, Bool.and_self]
  ·simp only [jE, decide_eq_false hq, cond_true, cond_false, Bool.not_false, Bool.and_self]
   rfl
def hM (js : Nat → J) (ms : Nat → Ms) (n m : Nat) (i : Int) : St := ⟨[(1, .p 1 0), (5, .v (.n .i64 i))], [(1, .blk [.v (.lf n (fJ js)), .v (.lf m (fM ms))])]⟩
def rM (js : Nat → J) (ms : Nat → Ms) (n m : Nat) (i : Int) : St := ⟨[(2, .v (.n .i64 808))], []⟩
def oM (js : Nat → J) (ms : Nat → Ms) (n m : Nat) : St := ⟨[], []⟩
def mTr {α : Type} (n : Nat) (q : Ms) (a b : α) : α := (bif (decide (q.link < 0)) then b else (bif (decide ((n : Int) ≤ q.link)) then b else (bif (decide (1 ≤ q.mass)) then (bif (decide (q.mass ≤ 65536)) then (bif (decide (q.p.x < (-4194304))) then b else (bif (decide (4194304 < q.p.x)) then b else (bif (decide (q.p.y < (-4194304))) then b else (bif (decide (4194304 < q.p.y)) then b else (bif (decide (q.p.z < (-4194304))) then b else (bif (decide (4194304 < q.p.z)) then b else a)))))) else b) else b)))
theorem mTr_eq {α : Type} (n : Nat) (q : Ms) (a b : α) : mTr n q a b = bif mokB n q then a else b := by
 unfold mTr mokB
 by_cases h : MOK n q
 ·have h' := h
  obtain ⟨⟨h1, h2⟩, ⟨h3, h4⟩, ⟨h5, h6⟩, ⟨h7, h8⟩, h9, h10⟩ := h'
  rw [decide_eq_true h]
  simp only [cond_true]
  simp only [Bool.cond_eq_ite, decide_eq_true_eq]
  repeat' split
  all_goals first | rfl | (exfalso; omega)
 ·rw [decide_eq_false h]
  unfold MOK at h
  simp only [cond_false]
  simp only [Bool.cond_eq_ite, decide_eq_true_eq]
  repeat' split
  all_goals first | rfl | (exfalso; omega) | contradiction
set_option maxRecDepth 100000 in
theorem rdM (G : St → Option (Ret × Mem)) (K : Cont) (js : Nat → J) (ms : Nat → Ms) (n m : Nat) (i : Int) : runCK 60 (cxF T (OrL.k [(84, qKW js ms n m)]) 60 45 (ntmF T 45)) (ckF T (OrL.k [(84, qKW js ms n m)]) 60) (jY T 45 [0, 1, 0, 1, 1, 1, 1]) (fun e τ => match e with
 | .normal => G (prune ((cxF T (OrL.k [(84, qKW js ms n m)]) 60 45 (ntmF T 45)).T.hint (cxF T (OrL.k [(84, qKW js ms n m)]) 60 45 (ntmF T 45)).me (kK (jY T 45 [0, 1, 0, 1, 1, 1, 1]))) τ)
 | e => K e (qVU ((cxF T (OrL.k [(84, qKW js ms n m)]) 60 45 (ntmF T 45)).T.hint (cxF T (OrL.k [(84, qKW js ms n m)]) 60 45 (ntmF T 45)).me (kK (jY T 45 [0, 1, 0, 1, 1, 1, 1]))) τ)) (hM js ms n m i) =
 bif decide (i < (m : Int)) then (bif inB i m then mTr n (ms i.toNat) (G (hM js ms n m (IntKind.i64.wrap (i + 1)))) (K .ret (rM js ms n m 0)) else none) else (K (.exit 2) (oM js ms n m)) := by kernel_rfl
theorem lpM (K : Cont) (js : Nat → J) (ms : Nat → Ms) (n m : Nat) (hm : m ≤ 1000) : ∀ (k p q : Nat), p + k = m → k < q → LF 60 (cxF T (OrL.k [(84, qKW js ms n m)]) 60 45 (ntmF T 45)) (ckF T (OrL.k [(84, qKW js ms n m)]) 60) (jY T 45 [0, 1, 0, 1, 1, 1, 1]) ((cxF T (OrL.k [(84, qKW js ms n m)]) 60 45 (ntmF T 45)).T.hint (cxF T (OrL.k [(84, qKW js ms n m)]) 60 45 (ntmF T 45)).me (kK (jY T 45 [0, 1, 0, 1, 1, 1, 1]))) K q (hM js ms n m p) = bif mAll ms n k p then (K (.exit 2) (oM js ms n m)) else (K .ret (rM js ms n m 0))
 | 0, p, q + 1, hp, hq => by
  refine (rdM (fun σ => LF 60 (cxF T (OrL.k [(84, qKW js ms n m)]) 60 45 (ntmF T 45)) (ckF T (OrL.k [(84, qKW js ms n m)]) 60) (jY T 45 [0, 1, 0, 1, 1, 1, 1]) ((cxF T (OrL.k [(84, qKW js ms n m)]) 60 45 (ntmF T 45)).T.hint (cxF T (OrL.k [(84, qKW js ms n m)]) 60 45 (ntmF T 45)).me (kK (jY T 45 [0, 1, 0, 1, 1, 1, 1]))) K q σ) K js ms n m p).trans ?_
  rw [decide_eq_false (show ¬ (p : Int) < (m : Int) by omega)]
  rfl
 | k + 1, p, q + 1, hp, hq => by
  refine (rdM (fun σ => LF 60 (cxF T (OrL.k [(84, qKW js ms n m)]) 60 45 (ntmF T 45)) (ckF T (OrL.k [(84, qKW js ms n m)]) 60) (jY T 45 [0, 1, 0, 1, 1, 1, 1]) ((cxF T (OrL.k [(84, qKW js ms n m)]) 60 45 (ntmF T 45)).T.hint (cxF T (OrL.k [(84, qKW js ms n m)]) 60 45 (ntmF T 45)).me (kK (jY T 45 [0, 1, 0, 1, 1, 1, 1]))) K q σ) K js ms n m p).trans ?_
  rw [decide_eq_true (show (p : Int) < (m : Int) by omega), qUW (show p < m by omega), zQY (by omega), lpM K js ms n m hm k (p + 1) q (by omega) (by omega), toN, mTr_eq]
  by_cases hq : mokB n (ms p) = true
  ·simp only [mAll, hq, cond_true, Bool.true_and]
  ·rw [Bool.not_eq_true] at hq
   simp only [mAll, hq, cond_true, cond_false, Bool.false_and]
set_option maxRecDepth 100000 in
theorem pxQ (js : Nat → J) (ms : Nat → Ms) (n m : Nat) : runKL T (OrL.k [(84, qKW js ms n m)]) (qJJ [([0, 1, 0, 1, 1], sumAt (hQ js ms n m 0) (fun K => bif decide (10 < (n : Int)) then none else (bif decide (jE js n n 0 = 0) then (K (.exit 0) (oQ js ms n m)) else (K .ret (rQ js ms n m (jE js n n 0)))))), ([0, 1, 0, 1, 1, 1, 1], sumAt (hM js ms n m 0) (fun K => bif decide (32 < (m : Int)) then none else (bif mAll ms n m 0 then (K (.exit 2) (oM js ms n m)) else (K .ret (rM js ms n m 0)))))]) 60 45 [(.a [.lf n (fJ js), .lf m (fM ms)])] =
 bif decide ((n : Int) < 1) then some (.v (.n .i64 801), []) else (bif decide (10 < (n : Int)) then some (.v (.n .i64 801), []) else (bif gSt (hQ js ms n m 0) (hQ js ms n m 0) then (bif decide (10 < (n : Int)) then none else (bif decide (jE js n n 0 = 0) then (bif decide (32 < (m : Int)) then some (.v (.n .i64 808), []) else (bif gSt (hM js ms n m 0) (hM js ms n m 0) then (bif decide (32 < (m : Int)) then none else (bif mAll ms n m 0 then some (.v (.n .i64 0), []) else some (.v (.n .i64 808), []))) else none)) else some (.v (.n .i64 (jE js n n 0)), []))) else none)) := by kernel_rfl
theorem snd_crf (js : Nat → J) (ms : Nat → Ms) (n m : Nat) : SndA1 Tryz.prog 45 [(.a [.lf n (fJ js), .lf m (fM ms)])] (.v (.n .i64 (rErr js ms n m))) := by
 refine qZY (N := 60) (LO := qJJ [([0, 1, 0, 1, 1], sumAt (hQ js ms n m 0) (fun K => bif decide (10 < (n : Int)) then none else (bif decide (jE js n n 0 = 0) then (K (.exit 0) (oQ js ms n m)) else (K .ret (rQ js ms n m (jE js n n 0)))))), ([0, 1, 0, 1, 1, 1, 1], sumAt (hM js ms n m 0) (fun K => bif decide (32 < (m : Int)) then none else (bif mAll ms n m 0 then (K (.exit 2) (oM js ms n m)) else (K .ret (rM js ms n m 0)))))]) tabOk mixed (OrL.ok (l := [(84, qKW js ms n m)]) ⟨ok_o_cjr js ms n m, trivial⟩) (fun p S hp => ?_) ?_
 ·refine qJY (L := jY T 45) (l := [([0, 1, 0, 1, 1], sumAt (hQ js ms n m 0) (fun K => bif decide (10 < (n : Int)) then none else (bif decide (jE js n n 0 = 0) then (K (.exit 0) (oQ js ms n m)) else (K .ret (rQ js ms n m (jE js n n 0)))))), ([0, 1, 0, 1, 1, 1, 1], sumAt (hM js ms n m 0) (fun K => bif decide (32 < (m : Int)) then none else (bif mAll ms n m 0 then (K (.exit 2) (oM js ms n m)) else (K .ret (rM js ms n m 0)))))]) (show AllP _ [([0, 1, 0, 1, 1], sumAt (hQ js ms n m 0) (fun K => bif decide (10 < (n : Int)) then none else (bif decide (jE js n n 0 = 0) then (K (.exit 0) (oQ js ms n m)) else (K .ret (rQ js ms n m (jE js n n 0)))))), ([0, 1, 0, 1, 1, 1, 1], sumAt (hM js ms n m 0) (fun K => bif decide (32 < (m : Int)) then none else (bif mAll ms n m 0 then (K (.exit 2) (oM js ms n m)) else (K .ret (rM js ms n m 0)))))] from ⟨qKG fun K r hr => ?_, qKG fun K r hr => ?_, trivial⟩) p S hp
  ·cases hq : decide (10 < (n : Int)) with
   | true => rw [hq] at hr; cases hr
   | false =>
    rw [hq] at hr
    have h10 := of_decide_eq_false hq
    exact (lpQ K js ms n m (by omega) n 0 60 (by omega) (by omega)).trans hr
  ·cases hq : decide (32 < (m : Int)) with
   | true => rw [hq] at hr; cases hr
   | false =>
    rw [hq] at hr
    have h32 := of_decide_eq_false hq
    exact (lpM K js ms n m (by omega) m 0 60 (by omega) (by omega)).trans hr
 ·refine (pxQ js ms n m).trans ?_
  unfold rErr
  rw [qUJ, qUJ, show decide ((n : Int) < 1) = decide ((n : Int) = 0) from decide_eq_decide.2 (by omega)]
  by_cases h0 : (n : Int) = 0
  ·rw [decide_eq_true h0]; rfl
  rw [decide_eq_false h0]
  by_cases h10 : 10 < (n : Int)
  ·rw [decide_eq_true h10]; rfl
  rw [decide_eq_false h10]
  by_cases hj : jE js n n 0 = 0
  ·rw [decide_eq_true hj]
   by_cases h32 : 32 < (m : Int)
   ·rw [decide_eq_true h32]; rfl
   rw [decide_eq_false h32]
   cases mAll ms n m 0 <;> rfl
  ·rw [decide_eq_false hj]; rfl
end Go.Proofs.YtmbnpjpggccefaaGreat.Nc
namespace Go.Rx
open Go.RowKit Go.Sx
def runAll {β : Type} (good : Nat → Bool) (KX : β) (KR : Nat → β) : Nat → Nat → β
 | 0, _ => KX
 | k + 1, p => bif good p then runAll good KX KR k (p + 1) else KR p
def allN (good : Nat → Bool) : Nat → Nat → Bool
 | 0, _ => true
 | k + 1, p => good p && allN good k (p + 1)
theorem runAll_all {β : Type} (good : Nat → Bool) (x y : β) : ∀ k p, runAll good x (fun _ => y) k p = bif allN good k p then x else y
 | 0, _ => rfl
 | k + 1, p => by
  simp only [runAll, allN, runAll_all good x y k (p + 1)]
  cases good p <;> rfl
theorem allN_iff {good : Nat → Bool} : ∀ {k p : Nat}, allN good k p = true ↔ ∀ j, p ≤ j → j < p + k → good j = true
 | 0, p => ⟨fun _ j h1 h2 => by omega, fun _ => rfl⟩
 | k + 1, p => by
  simp only [allN, Bool.and_eq_true, allN_iff (k := k)]
  exact ⟨fun h j h1 h2 => by
   rcases Nat.eq_or_lt_of_le h1 with e | e
   ·exact e ▸ h.1
   ·exact h.2 j e (by omega), fun h => ⟨h p (Nat.le_refl _) (by omega), fun j h1 h2 => h j (by omega) (by omega)⟩⟩
def qJH (good : Nat → Bool) : Nat → Nat → Nat
 | 0, p => p
 | k + 1, p => bif good p then qJH good k (p + 1) else p
theorem runAll_first {β : Type} (good : Nat → Bool) (x : β) (y : Nat → β) : ∀ k p, runAll good x y k p = bif allN good k p then x else y (qJH good k p)
 | 0, _ => rfl
 | k + 1, p => by
  simp only [runAll, allN, qJH, runAll_first good x y k (p + 1)]
  cases good p <;> rfl
def stepR (N : Nat) (C : Cx) (cK : CallK) (x : Code) (h : Hint) (K : Cont) (G : St → Option (Ret × Mem)) (σ : St) : Option (Ret × Mem) := runCK N C cK x (fun e τ => match e with
 | .normal => G (prune h τ)
 | e => K e (qVU h τ)) σ
theorem LF_succ {N : Nat} {C : Cx} {cK : CallK} {x : Code} {h : Hint} {K : Cont} {n : Nat} {σ : St} : LF N C cK x h K (n + 1) σ = stepR N C cK x h K (fun σ => LF N C cK x h K n σ) σ := rfl
theorem lp_all {N : Nat} {C : Cx} {cK : CallK} {x : Code} {h : Hint} {K : Cont} (hd : Int → St) (good : Nat → Bool) {c : Nat} (KX : Option (Ret × Mem)) (KR : Nat → Option (Ret × Mem))
  (r1 : ∀ G (i : Nat), i < c → stepR N C cK x h K G (hd (i : Int)) = bif good i then G (hd ((i + 1 : Nat) : Int)) else KR i)
  (r2 : ∀ G, stepR N C cK x h K G (hd (c : Int)) = KX) : ∀ (k p q : Nat), p + k = c → k < q → LF N C cK x h K q (hd (p : Int)) = runAll good KX KR k p
 | 0, p, q + 1, hp, _ => by
  rw [LF_succ, show p = c by omega]
  exact r2 _
 | k + 1, p, q + 1, hp, hq => by
  rw [LF_succ, r1 _ p (by omega), lp_all hd good KX KR r1 r2 k (p + 1) q (by omega) (by omega)]
  rfl
theorem lp_app {N : Nat} {C : Cx} {cK : CallK} {x : Code} {h : Hint} {K : Cont} (hd : Int → List (List PV) → St) (g : Nat → List PV) {c : Nat} (KX : List (List PV) → Option (Ret × Mem))
  (r1 : ∀ G (i : Nat) rows, i < c → rows.length = i → stepR N C cK x h K G (hd (i : Int) rows) = G (hd ((i + 1 : Nat) : Int) (rows ++ [g i])))
  (r2 : ∀ G rows, rows.length = c → stepR N C cK x h K G (hd (c : Int) rows) = KX rows) : ∀ (k p q : Nat) (rows : List (List PV)), rows.length = p → p + k = c → k < q → LF N C cK x h K q (hd (p : Int) rows) = KX (rows ++ (List.range' p k).map g)
 | 0, p, q + 1, rows, hl, hp, _ => by
  rw [LF_succ, show p = c by omega, r2 _ rows (by omega)]
  simp
 | k + 1, p, q + 1, rows, hl, hp, hq => by
  rw [LF_succ, r1 _ p rows (by omega) hl, lp_app hd g KX r1 r2 k (p + 1) q (rows ++ [g p]) (by rw [List.length_append, hl]; rfl) (by omega) (by omega)]
  rw [List.range'_succ, List.map_cons, List.append_assoc]
  rfl
theorem rng0 (n : Nat) (g : Nat → List PV) : [] ++ (List.range' 0 n).map g = (List.range n).map g := by rw [List.nil_append, List.range_eq_range']
theorem rows_fn {α : Type} (d : α) (f : α → List PV) (l : List α) : l.map f = (List.range l.length).map fun i => f (l.getD i d) := by
 refine List.ext_getElem? fun i => ?_
 rw [List.getElem?_map, List.getElem?_map]
 by_cases h : i < l.length
 ·rw [List.getElem?_range h, List.getElem?_eq_getElem h]
  simp [List.getD_eq_getElem?_getD, h]
 ·rw [List.getElem?_eq_none (by omega), List.getElem?_eq_none (by simp; omega)]
  rfl
theorem snd_args {P : Program} {f : Nat} {ps ps' : List PV} {r : Ret} (hs : ∀ F w vals, Al (RP F w) ps' vals → Al (RP F w) ps vals) (h : SndA1 P f ps r) : SndA1 P f ps' r :=
 ⟨h.1, fun w F vals hF hal => h.2 w F vals hF (hs F w vals hal)⟩
theorem snd_res {P : Program} {f : Nat} {ps : List PV} {x y : PV} (hs : ∀ F w v, RP F w x v → RP F w y v) (h : SndA1 P f ps (.v x)) : SndA1 P f ps (.v y) :=
 ⟨h.1, fun w F vals hF hal => (h.2 w F vals hF hal).mono fun _ w' ⟨v, F', he, hg, f1, f2, hr⟩ => ⟨v, F', he, hg, f1, f2, hs F' w' v hr⟩⟩
theorem rp_lf_l {F : Nat → Prop} {w : World} {n : Nat} {f : Nat → List PV} {rows : List (List PV)} {v : Value} (e : rows = (List.range n).map f) (h : RP F w (.l rows) v) : RP F w (.lf n f) v := .lf n f v (e ▸ h)
theorem rp_l_lf {F : Nat → Prop} {w : World} {n : Nat} {f : Nat → List PV} {rows : List (List PV)} {v : Value} (e : rows = (List.range n).map f) (h : RP F w (.lf n f) v) : RP F w (.l rows) v := by
 cases h with
 | lf _ _ _ h => exact e ▸ h
def Same (x y : PV) : Prop := ∀ F w v, RP F w x v → RP F w y v
theorem Same.refl (x : PV) : Same x x := fun _ _ _ h => h
theorem Same.lf {n : Nat} {f : Nat → List PV} {rows : List (List PV)} (e : rows = (List.range n).map f) : Same (.l rows) (.lf n f) := fun _ _ _ => rp_lf_l e
theorem Same.l {n : Nat} {f : Nat → List PV} {rows : List (List PV)} (e : rows = (List.range n).map f) : Same (.lf n f) (.l rows) := fun _ _ _ => rp_l_lf e
def Sames : List PV → List PV → Prop
 | [], [] => True
 | x :: xs, y :: ys => Same x y ∧ Sames xs ys
 | _, _ => False
theorem Sames.al {F : Nat → Prop} {w : World} : ∀ {xs ys : List PV} {vs : List Value}, Sames xs ys → Al (RP F w) xs vs → Al (RP F w) ys vs
 | [], [], _, _, h => h
 | x :: xs, y :: ys, vs, hs, h => by
  obtain ⟨v, vs, rfl, h1, h2⟩ := qJU h
  exact qVJ (hs.1 F w v h1) (Sames.al hs.2 h2)
 | [], _ :: _, _, h, _ => h.elim
 | _ :: _, [], _, h, _ => h.elim
theorem Same.a {xs ys : List PV} (h : Sames xs ys) : Same (.a xs) (.a ys) := fun F w v hv => by
 cases hv with
 | a _ vs hl h1 hh =>
  have := Sames.al h (show Al (RP F w) xs vs from ⟨hl, hh⟩)
  exact .a ys vs this.1 h1 this.2
theorem Same.t {xs ys : List PV} (h : Sames xs ys) : Same (.t xs) (.t ys) := fun F w v hv => by
 cases hv with
 | t _ vs hl hh =>
  have := Sames.al h (show Al (RP F w) xs vs from ⟨hl, hh⟩)
  exact .t ys vs this.1 this.2
theorem snd_same {P : Program} {f : Nat} {ps ps' : List PV} {x y : PV} (ha : Sames ps' ps) (hr : Same x y) (h : SndA1 P f ps (.v x)) : SndA1 P f ps' (.v y) :=
 snd_res hr (snd_args (fun _ _ _ => ha.al) h)
theorem snd_own {P : Program} {f e sz : Nat} {ps : List PV} {rows : List (List PV)} (h : SndA1 P f ps (.ow e sz rows)) : SndA1 P f ps (.v (.l rows)) := by
 refine ⟨h.1, fun w F vals hF hal => (h.2 w F vals hF hal).mono ?_⟩
 rintro en w' ⟨v, F', he, hg, f1, f2, hr⟩
 obtain ⟨F2, f3, f4, hx⟩ := hr.pv (x := .l rows) rfl
 refine ⟨v, F2, he, hg, fun k hk => f3 k (f1 k hk), fun k hk => ?_, hx⟩
 rcases f4 k hk with h | h
 ·exact f2 k h
 ·exact .inr h
end Go.Rx
namespace Go.Proofs.YtmbnpjpggccefaaGreat.Nee
open Go.Rx Rt Go.Sx Go.RowKit Od Ov Pc Na Nb Nc
noncomputable def o_iWithin : List PV → Option (Bool × Ret) := fun ps => match ps with
 | [.a a', .a b'] => (ivD a').bind fun a => (ivD b').bind fun b => some (true, .v (.b (Iv.within a b)))
 | _ => none
theorem ok_iWithin : OneOk Tryz.prog 91 o_iWithin := by
 intro ps r h
 unfold o_iWithin at h
 split at h
 ·simp only [Option.bind_eq_some_iff, Option.some.injEq, Prod.mk.injEq] at h
  obtain ⟨a, ha, b, hb, hg, rfl⟩ := h
  rw [qGU ha]
  rw [qGU hb]
  exact qQY (zG Tryz.func91 (by kernel_rfl) (by kernel_rfl)) rfl rfl (fun w => iWithin _ _ _ _ w)
 ·cases h
noncomputable def L7 : OrL := (91, o_iWithin) :: L6
theorem L7_ok : AllP (fun x : Nat × (List PV → Option (Bool × Ret)) => OneOk Tryz.prog x.1 x.2) L7 := ⟨ok_iWithin, L6_ok⟩
noncomputable def o_iValid : List PV → Option (Bool × Ret) := fun ps => match ps with
 | [.a a'] => (ivD a').bind fun a => some (true, .v (.b (Iv.valid a)))
 | _ => none
theorem ok_iValid : OneOk Tryz.prog 107 o_iValid := by
 intro ps r h
 unfold o_iValid at h
 split at h
 ·simp only [Option.bind_eq_some_iff, Option.some.injEq, Prod.mk.injEq] at h
  obtain ⟨a, ha, hg, rfl⟩ := h
  rw [qGU ha]
  exact qQY (zG Tryz.func107 (by kernel_rfl) (by kernel_rfl)) rfl rfl (fun w => zYG _ _ w)
 ·cases h
noncomputable def L8 : OrL := (107, o_iValid) :: L7
theorem L8_ok : AllP (fun x : Nat × (List PV → Option (Bool × Ret)) => OneOk Tryz.prog x.1 x.2) L8 := ⟨ok_iValid, L7_ok⟩
noncomputable def o_rWithin : List PV → Option (Bool × Ret) := fun ps => match ps with
 | [.a a', .a b'] => (ivD a').bind fun a => (ivD b').bind fun b => some (true, .v (.b (Iv.within a b)))
 | _ => none
theorem ok_rWithin : OneOk Tryz.prog 159 o_rWithin := by
 intro ps r h
 unfold o_rWithin at h
 split at h
 ·simp only [Option.bind_eq_some_iff, Option.some.injEq, Prod.mk.injEq] at h
  obtain ⟨a, ha, b, hb, hg, rfl⟩ := h
  rw [qGU ha]
  rw [qGU hb]
  exact qQY (zG Tryz.func159 (by kernel_rfl) (by kernel_rfl)) rfl rfl (fun w => rWithin _ _ _ _ w)
 ·cases h
noncomputable def L9 : OrL := (159, o_rWithin) :: L8
theorem L9_ok : AllP (fun x : Nat × (List PV → Option (Bool × Ret)) => OneOk Tryz.prog x.1 x.2) L9 := ⟨ok_rWithin, L8_ok⟩
noncomputable def o_rValid : List PV → Option (Bool × Ret) := fun ps => match ps with
 | [.a a'] => (ivD a').bind fun a => some (true, .v (.b (Iv.valid a)))
 | _ => none
theorem ok_rValid : OneOk Tryz.prog 147 o_rValid := by
 intro ps r h
 unfold o_rValid at h
 split at h
 ·simp only [Option.bind_eq_some_iff, Option.some.injEq, Prod.mk.injEq] at h
  obtain ⟨a, ha, hg, rfl⟩ := h
  rw [qGU ha]
  exact qQY (zG Tryz.func147 (by kernel_rfl) (by kernel_rfl)) rfl rfl (fun w => zQH _ _ w)
 ·cases h
noncomputable def L10 : OrL := (147, o_rValid) :: L9
theorem L10_ok : AllP (fun x : Nat × (List PV → Option (Bool × Ret)) => OneOk Tryz.prog x.1 x.2) L10 := ⟨ok_rValid, L9_ok⟩
def fB (bx : Nat → Iv) : Nat → List PV := fun v => [.n .i64 (bx v).lo, .n .i64 (bx v).hi]
set_option maxRecDepth 100000 in
theorem tr_cIn (nm : ByteArray) (kind par ox oy oz jlo jhi we spd acc tq a0 a1 : Int) : runK T (OrL.k L10) 60 90 [.a [.s nm, .n .i64 kind, .n .i64 par, .n .i64 ox, .n .i64 oy, .n .i64 oz, .n .i64 jlo, .n .i64 jhi, .n .i64 we, .n .i64 spd, .n .i64 acc, .n .i64 tq], .a [.n .i64 a0, .n .i64 a1]] =
 some (.v (.b (Iv.within ⟨a0, a1⟩ ⟨jlo, jhi⟩)), []) := by
 refine (by kernel_rfl : _ = bif Iv.within ⟨a0, a1⟩ ⟨jlo, jhi⟩ then some (.v (.b true), []) else some (.v (.b false), [])).trans ?_
 cases Iv.within ⟨a0, a1⟩ ⟨jlo, jhi⟩ <;> rfl
noncomputable def o_cIn : List PV → Option (Bool × Ret) := fun ps => match ps with
 | [.a [.s nm, .n .i64 kind, .n .i64 par, .n .i64 ox, .n .i64 oy, .n .i64 oz, .n .i64 jlo, .n .i64 jhi, .n .i64 we, .n .i64 spd, .n .i64 acc, .n .i64 tq], .a a'] => (ivD a').bind fun a => some (true, .v (.b (Iv.within a ⟨jlo, jhi⟩)))
 | _ => none
theorem ok_cIn : OneOk Tryz.prog 90 o_cIn := by
 intro ps r h
 unfold o_cIn at h
 split at h
 ·simp only [Option.bind_eq_some_iff, Option.some.injEq, Prod.mk.injEq] at h
  obtain ⟨a, ha, hg, rfl⟩ := h
  rw [qGU ha]
  exact uW (N := 60) tabOk mixed (OrL.ok L10_ok) (tr_cIn _ _ _ _ _ _ _ _ _ _ _ _ _ _)
 ·cases h
noncomputable def L11 : OrL := (90, o_cIn) :: L10
theorem L11_ok : AllP (fun x : Nat × (List PV → Option (Bool × Ret)) => OneOk Tryz.prog x.1 x.2) L11 := ⟨ok_cIn, L10_ok⟩
def hE (js : Nat → J) (bx : Nat → Iv) (n k : Nat) (i : Int) : St := ⟨[(1, .v (.lf k (fB bx))), (2, .v (.f 90 [] [])), (14, .v (.lf n (fJ js))), (15, .v (.n .i64 (n : Int))), (16, .v (.n .i64 i))], []⟩
set_option maxRecDepth 100000 in
theorem rdE (G : St → Option (Ret × Mem)) (K : Cont) (js : Nat → J) (bx : Nat → Iv) (n k : Nat) (i : Int) : stepR 60 (cxF T (OrL.k L11) 60 89 (ntmF T 89)) (ckF T (OrL.k L11) 60) (jY T 89 [0, 1, 0, 1, 1]) ((cxF T (OrL.k L11) 60 89 (ntmF T 89)).T.hint (cxF T (OrL.k L11) 60 89 (ntmF T 89)).me (kK (jY T 89 [0, 1, 0, 1, 1]))) K G (hE js bx n k i) =
 (bif (decide (i < (n : Int))) then (bif (inB i n) then (bif (inB i k) then (bif Iv.within (bx (i).toNat) ⟨((js (i).toNat).lo), ((js (i).toNat).hi)⟩ then (G (hE js bx n k (IntKind.i64.wrap (i + 1))))
 else (K .ret ⟨[(6, .v (.b false))], []⟩))
 else none)
 else none)
 else (K (.exit 0) ⟨[], []⟩)) := by kernel_rfl
theorem lpE (K : Cont) (js : Nat → J) (bx : Nat → Iv) (n k : Nat) (hn : n ≤ 50) (hk : n = k) : LF 60 (cxF T (OrL.k L11) 60 89 (ntmF T 89)) (ckF T (OrL.k L11) 60) (jY T 89 [0, 1, 0, 1, 1]) ((cxF T (OrL.k L11) 60 89 (ntmF T 89)).T.hint (cxF T (OrL.k L11) 60 89 (ntmF T 89)).me (kK (jY T 89 [0, 1, 0, 1, 1]))) K 60 (hE js bx n k 0) = bif (allN (fun i : Nat => Iv.within (bx i) ⟨(js i).lo, (js i).hi⟩) n 0) then (K (.exit 0) ⟨[], []⟩) else (K .ret ⟨[(6, .v (.b false))], []⟩) := by
 refine (lp_all (c := n) (hE js bx n k) (fun i : Nat => Iv.within (bx i) ⟨(js i).lo, (js i).hi⟩) (K (.exit 0) ⟨[], []⟩) (fun i : Nat => (K .ret ⟨[(6, .v (.b false))], []⟩)) (fun G i hi => ?_) (fun G => ?_) n 0 60 (by omega) (by omega)).trans (runAll_all _ _ _ _ _)
 ·refine (rdE G K js bx n k i).trans ?_
  rw [decide_eq_true (show (i : Int) < (n : Int) by omega), zQY (by omega), qUW (show i < n by omega), qUW (show i < k by omega), toN]
  rfl
 ·refine (rdE G K js bx n k n).trans ?_
  rw [decide_eq_false (show ¬ (n : Int) < (n : Int) by omega)]
  rfl
def insB (js : Nat → J) (bx : Nat → Iv) (n k : Nat) : Bool := decide ((n : Int) = (k : Int)) && (allN (fun i : Nat => Iv.within (bx i) ⟨(js i).lo, (js i).hi⟩) n 0)
set_option maxRecDepth 100000 in
theorem pxevery (js : Nat → J) (bx : Nat → Iv) (n k : Nat) : runKL T (OrL.k L11) (qJJ [([0, 1, 0, 1, 1], sumAt (hE js bx n k 0) (fun K => (bif (decide ((n : Int) = (k : Int)) && decide (n ≤ 50)) then (bif (allN (fun i : Nat => Iv.within (bx i) ⟨(js i).lo, (js i).hi⟩) n 0) then (K (.exit 0) ⟨[], []⟩) else (K .ret ⟨[(6, .v (.b false))], []⟩)) else none)))]) 60 89 [.lf n (fJ js), .lf k (fB bx), .f 90 [] []] =
 (bif (!decide ((n : Int) = (k : Int))) then some (.v (.b false), [])
 else (bif (gSt (hE js bx n k 0) (hE js bx n k 0)) then (bif (decide ((n : Int) = (k : Int)) && decide (n ≤ 50)) then (bif (allN (fun i : Nat => Iv.within (bx i) ⟨(js i).lo, (js i).hi⟩) n 0) then some (.v (.b true), [])
 else some (.v (.b false), []))
 else none)
 else none)) := by kernel_rfl
theorem snd_every (js : Nat → J) (bx : Nat → Iv) (n k : Nat) (hn : n ≤ 50) : SndA1 Tryz.prog 89 [.lf n (fJ js), .lf k (fB bx), .f 90 [] []] (.v (.b (insB js bx n k))) := by
 refine qZY (N := 60) (LO := qJJ [([0, 1, 0, 1, 1], sumAt (hE js bx n k 0) (fun K => (bif (decide ((n : Int) = (k : Int)) && decide (n ≤ 50)) then (bif (allN (fun i : Nat => Iv.within (bx i) ⟨(js i).lo, (js i).hi⟩) n 0) then (K (.exit 0) ⟨[], []⟩) else (K .ret ⟨[(6, .v (.b false))], []⟩)) else none)))]) tabOk mixed (OrL.ok (l := L11) L11_ok) (fun p S hp => ?_) ?_
 ·refine qJY (L := jY T 89) (l := [([0, 1, 0, 1, 1], sumAt (hE js bx n k 0) (fun K => (bif (decide ((n : Int) = (k : Int)) && decide (n ≤ 50)) then (bif (allN (fun i : Nat => Iv.within (bx i) ⟨(js i).lo, (js i).hi⟩) n 0) then (K (.exit 0) ⟨[], []⟩) else (K .ret ⟨[(6, .v (.b false))], []⟩)) else none)))]) (show AllP _ [([0, 1, 0, 1, 1], sumAt (hE js bx n k 0) (fun K => (bif (decide ((n : Int) = (k : Int)) && decide (n ≤ 50)) then (bif (allN (fun i : Nat => Iv.within (bx i) ⟨(js i).lo, (js i).hi⟩) n 0) then (K (.exit 0) ⟨[], []⟩) else (K .ret ⟨[(6, .v (.b false))], []⟩)) else none)))] from ⟨qKG fun K r hr => ?_, trivial⟩) p S hp
  ·obtain ⟨hg, hr⟩ := yG hr
   rw [Bool.and_eq_true] at hg
   have hn := of_decide_eq_true hg.2
   have hk : n = k := by have := of_decide_eq_true hg.1; omega
   exact (lpE K js bx n k hn hk).trans hr
 ·refine (pxevery js bx n k).trans ?_
  unfold insB
  rw [qUJ, decide_eq_true hn]
  cases decide ((n : Int) = (k : Int)) <;> cases (allN (fun i : Nat => Iv.within (bx i) ⟨(js i).lo, (js i).hi⟩) n 0) <;> rfl
noncomputable def o_ev (js : Nat → J) (bx : Nat → Iv) (n k : Nat) : List PV → Option (Bool × Ret) := fun ps => some (gEq (.t ps) (.t [.lf n (fJ js), .lf k (fB bx), .f 90 [] []]) && decide (n ≤ 50), .v (.b (insB js bx n k)))
theorem ok_ev (js : Nat → J) (bx : Nat → Iv) (n k : Nat) : OneOk Tryz.prog 89 (o_ev js bx n k) := by
 intro ps q hh
 unfold o_ev at hh
 simp only [Option.some.injEq, Prod.mk.injEq, Bool.and_eq_true] at hh
 obtain ⟨⟨hg, hb⟩, rfl⟩ := hh
 have := zZV hg
 simp only [PV.t.injEq] at this
 rw [this]
 exact snd_every js bx n k (of_decide_eq_true hb)
theorem rerr_n {js : Nat → J} {ms : Nat → Ms} {n m : Nat} (h : rErr js ms n m = 0) : 1 ≤ n ∧ n ≤ 10 := by
 unfold rErr at h
 by_cases h0 : (n : Int) = 0
 ·rw [decide_eq_true h0] at h; cases h
 by_cases h1 : 10 < (n : Int)
 ·rw [decide_eq_false h0, decide_eq_true h1] at h; cases h
 omega
def pIn (js : Nat → J) (ms : Nat → Ms) (bx : Nat → Iv) (n m k : Nat) : Bool := decide (rErr js ms n m = 0) && insB js bx n k
theorem snd_pIn (js : Nat → J) (ms : Nat → Ms) (bx : Nat → Iv) (n m k : Nat) : SndA1 Tryz.prog 52 [.a [.lf n (fJ js), .lf m (fM ms)], .lf k (fB bx)] (.v (.b (pIn js ms bx n m k))) := by
 refine uW (N := 60) tabOk mixed (OrL.ok (l := [(43, zQK [.a [.lf n (fJ js), .lf m (fM ms)]] (.v (.n .i64 (rErr js ms n m)))), (89, o_ev js bx n k)]) ⟨qHG (snd_chk js ms n m), ok_ev js bx n k, trivial⟩) ?_
 refine (by kernel_rfl : _ = bif (g1 [.a [.lf n (fJ js), .lf m (fM ms)]]) then (bif (decide ((rErr js ms n m) = 0)) then (bif (g1 [.lf n (fJ js), .lf k (fB bx), .f 90 [] []] && decide (n ≤ 50)) then (bif (insB js bx n k) then some (.v (.b true), [])
 else some (.v (.b false), []))
 else none)
 else some (.v (.b false), []))
 else none).trans ?_
 unfold pIn
 rw [zJZ, zJZ]
 by_cases h : rErr js ms n m = 0
 ·have := rerr_n h
  rw [decide_eq_true h, decide_eq_true (show n ≤ 50 by omega)]
  cases insB js bx n k <;> rfl
 ·rw [decide_eq_false h]; rfl
def hA (bx : Nat → Iv) (k : Nat) (i : Int) : St := ⟨[(0, .v (.lf k (fB bx))), (3, .v (.n .i64 i))], []⟩
set_option maxRecDepth 100000 in
theorem rdA (G : St → Option (Ret × Mem)) (K : Cont) (bx : Nat → Iv) (k : Nat) (i : Int) : stepR 60 (cxF T (OrL.k L11) 60 108 (ntmF T 108)) (ckF T (OrL.k L11) 60) (jY T 108 [0, 1, 0, 1]) ((cxF T (OrL.k L11) 60 108 (ntmF T 108)).T.hint (cxF T (OrL.k L11) 60 108 (ntmF T 108)).me (kK (jY T 108 [0, 1, 0, 1]))) K G (hA bx k i) =
 (bif (decide (i < (k : Int))) then (bif (inB i k) then (bif Iv.valid (bx (i).toNat) then (G (hA bx k (IntKind.i64.wrap (i + 1))))
 else (K .ret ⟨[(2, .v (.b false))], []⟩))
 else none)
 else (K (.exit 0) ⟨[], []⟩)) := by kernel_rfl
theorem lpA (K : Cont) (bx : Nat → Iv) (k : Nat) (hk : k ≤ 50) : LF 60 (cxF T (OrL.k L11) 60 108 (ntmF T 108)) (ckF T (OrL.k L11) 60) (jY T 108 [0, 1, 0, 1]) ((cxF T (OrL.k L11) 60 108 (ntmF T 108)).T.hint (cxF T (OrL.k L11) 60 108 (ntmF T 108)).me (kK (jY T 108 [0, 1, 0, 1]))) K 60 (hA bx k 0) = bif (allN (fun i : Nat => Iv.valid (bx i)) k 0) then (K (.exit 0) ⟨[], []⟩) else (K .ret ⟨[(2, .v (.b false))], []⟩) := by
 refine (lp_all (c := k) (hA bx k) (fun i : Nat => Iv.valid (bx i)) (K (.exit 0) ⟨[], []⟩) (fun i : Nat => (K .ret ⟨[(2, .v (.b false))], []⟩)) (fun G i hi => ?_) (fun G => ?_) k 0 60 (by omega) (by omega)).trans (runAll_all _ _ _ _ _)
 ·refine (rdA G K bx k i).trans ?_
  rw [decide_eq_true (show (i : Int) < (k : Int) by omega), zQY (by omega), qUW (show i < k by omega), toN]
  cases Iv.valid (bx i) <;> rfl
 ·refine (rdA G K bx k k).trans ?_
  rw [decide_eq_false (show ¬ (k : Int) < (k : Int) by omega)]
  rfl
def allV (bx : Nat → Iv) (k : Nat) : Bool := (allN (fun i : Nat => Iv.valid (bx i)) k 0)
set_option maxRecDepth 100000 in
theorem pxallv (bx : Nat → Iv) (k : Nat) : runKL T (OrL.k L11) (qJJ [([0, 1, 0, 1], sumAt (hA bx k 0) (fun K => (bif (decide (k ≤ 50)) then (bif (allN (fun i : Nat => Iv.valid (bx i)) k 0) then (K (.exit 0) ⟨[], []⟩) else (K .ret ⟨[(2, .v (.b false))], []⟩)) else none)))]) 60 108 [.lf k (fB bx)] =
 (bif (gSt (hA bx k 0) (hA bx k 0)) then (bif (decide (k ≤ 50)) then (bif (allN (fun i : Nat => Iv.valid (bx i)) k 0) then some (.v (.b true), [])
 else some (.v (.b false), []))
 else none)
 else none) := by kernel_rfl
theorem snd_allv (bx : Nat → Iv) (k : Nat) (hk : k ≤ 50) : SndA1 Tryz.prog 108 [.lf k (fB bx)] (.v (.b (allV bx k))) := by
 refine qZY (N := 60) (LO := qJJ [([0, 1, 0, 1], sumAt (hA bx k 0) (fun K => (bif (decide (k ≤ 50)) then (bif (allN (fun i : Nat => Iv.valid (bx i)) k 0) then (K (.exit 0) ⟨[], []⟩) else (K .ret ⟨[(2, .v (.b false))], []⟩)) else none)))]) tabOk mixed (OrL.ok (l := L11) L11_ok) (fun p S hp => ?_) ?_
 ·refine qJY (L := jY T 108) (l := [([0, 1, 0, 1], sumAt (hA bx k 0) (fun K => (bif (decide (k ≤ 50)) then (bif (allN (fun i : Nat => Iv.valid (bx i)) k 0) then (K (.exit 0) ⟨[], []⟩) else (K .ret ⟨[(2, .v (.b false))], []⟩)) else none)))]) (show AllP _ [([0, 1, 0, 1], sumAt (hA bx k 0) (fun K => (bif (decide (k ≤ 50)) then (bif (allN (fun i : Nat => Iv.valid (bx i)) k 0) then (K (.exit 0) ⟨[], []⟩) else (K .ret ⟨[(2, .v (.b false))], []⟩)) else none)))] from ⟨qKG fun K r hr => ?_, trivial⟩) p S hp
  ·obtain ⟨hg, hr⟩ := yG hr
   have hk := of_decide_eq_true hg
   exact (lpA K bx k hk).trans hr
 ·refine (pxallv bx k).trans ?_
  unfold allV
  rw [qUJ, decide_eq_true hk]
  cases (allN (fun i : Nat => Iv.valid (bx i)) k 0) <;> rfl
def limB (js : Nat → J) : Nat → Iv := fun i => ⟨(js i).lo, (js i).hi⟩
def hL (js : Nat → J) (ms : Nat → Ms) (n m : Nat) (i : Int) (rows : List (List PV)) : St := ⟨[(1, .p 1 0), (3, .o 30), (4, .v (.n .i64 i))], [(1, .blk [.v (.lf n (fJ js)), .v (.lf m (fM ms))]), (30, .reg 71 2 rows)]⟩
set_option maxRecDepth 100000 in
theorem rdL (G : St → Option (Ret × Mem)) (K : Cont) (js : Nat → J) (ms : Nat → Ms) (n m : Nat) (i : Int) (rows : List (List PV)) : stepR 60 (cxF T (OrL.k [(45, zQK [.a [.lf n (fJ js), .lf m (fM ms)]] (.v (.n .i64 (rErr js ms n m))))]) 60 132 (ntmF T 132)) (ckF T (OrL.k [(45, zQK [.a [.lf n (fJ js), .lf m (fM ms)]] (.v (.n .i64 (rErr js ms n m))))]) 60) (jY T 132 [0, 1, 0, 1, 1, 1]) ((cxF T (OrL.k [(45, zQK [.a [.lf n (fJ js), .lf m (fM ms)]] (.v (.n .i64 (rErr js ms n m))))]) 60 132 (ntmF T 132)).T.hint (cxF T (OrL.k [(45, zQK [.a [.lf n (fJ js), .lf m (fM ms)]] (.v (.n .i64 (rErr js ms n m))))]) 60 132 (ntmF T 132)).me (kK (jY T 132 [0, 1, 0, 1, 1, 1]))) K G (hL js ms n m i rows) =
 (bif (decide (i < (n : Int))) then (bif (inB i n) then (bif (inB i n) then (bif (decide (rows.length + 1 ≤ 1000000)) then (G (hL js ms n m (IntKind.i64.wrap (i + 1)) ((rows ++ [[.n .i64 (js (i).toNat).lo, .n .i64 (js (i).toNat).hi]]))))
 else none)
 else none)
 else none)
 else (K (.exit 0) ⟨[(3, .o 30)], [(30, .reg 71 2 rows)]⟩)) := by kernel_rfl
theorem lpL (K : Cont) (js : Nat → J) (ms : Nat → Ms) (n m : Nat) (hn : n ≤ 50) : LF 60 (cxF T (OrL.k [(45, zQK [.a [.lf n (fJ js), .lf m (fM ms)]] (.v (.n .i64 (rErr js ms n m))))]) 60 132 (ntmF T 132)) (ckF T (OrL.k [(45, zQK [.a [.lf n (fJ js), .lf m (fM ms)]] (.v (.n .i64 (rErr js ms n m))))]) 60) (jY T 132 [0, 1, 0, 1, 1, 1]) ((cxF T (OrL.k [(45, zQK [.a [.lf n (fJ js), .lf m (fM ms)]] (.v (.n .i64 (rErr js ms n m))))]) 60 132 (ntmF T 132)).T.hint (cxF T (OrL.k [(45, zQK [.a [.lf n (fJ js), .lf m (fM ms)]] (.v (.n .i64 (rErr js ms n m))))]) 60 132 (ntmF T 132)).me (kK (jY T 132 [0, 1, 0, 1, 1, 1]))) K 60 (hL js ms n m 0 []) = (K (.exit 0) ⟨[(3, .o 30)], [(30, .reg 71 2 ((List.range n).map (fun i : Nat => [.n .i64 (js i).lo, .n .i64 (js i).hi])))]⟩) := by
 refine (lp_app (c := n) (hL js ms n m) (fun i : Nat => [.n .i64 (js i).lo, .n .i64 (js i).hi]) (fun rows => (K (.exit 0) ⟨[(3, .o 30)], [(30, .reg 71 2 rows)]⟩)) (fun G i rows hi hl => ?_) (fun G rows hl => ?_) n 0 60 [] rfl (by omega) (by omega)).trans (congrArg (fun rows => (K (.exit 0) ⟨[(3, .o 30)], [(30, .reg 71 2 rows)]⟩)) (rng0 n _))
 ·refine (rdL G K js ms n m i rows).trans ?_
  rw [decide_eq_true (show (i : Int) < (n : Int) by omega), zQY (by omega), qUW (show i < n by omega), decide_eq_true (show rows.length + 1 ≤ 1000000 by omega), toN]
  rfl
 ·refine (rdL G K js ms n m n rows).trans ?_
  rw [decide_eq_false (show ¬ (n : Int) < (n : Int) by omega)]
  rfl
set_option maxRecDepth 100000 in
theorem pxlimO (js : Nat → J) (ms : Nat → Ms) (n m : Nat) : runKL T (OrL.k [(45, zQK [.a [.lf n (fJ js), .lf m (fM ms)]] (.v (.n .i64 (rErr js ms n m))))]) (qJJ [([0, 1, 0, 1, 1, 1], sumAt (hL js ms n m 0 []) (fun K => (bif (decide (n ≤ 50)) then (K (.exit 0) ⟨[(3, .o 30)], [(30, .reg 71 2 ((List.range n).map (fun i : Nat => [.n .i64 (js i).lo, .n .i64 (js i).hi])))]⟩) else none)))]) 60 132 [.a [.lf n (fJ js), .lf m (fM ms)]] =
 (bif (g1 [.a [.lf n (fJ js), .lf m (fM ms)]]) then (bif (!decide ((rErr js ms n m) = 0)) then some (.v (.l []), [])
 else (bif (gSt (hL js ms n m 0 []) (hL js ms n m 0 [])) then (bif (decide (n ≤ 50)) then some (.ow 71 2 ((List.range n).map (fun i : Nat => [.n .i64 (js i).lo, .n .i64 (js i).hi])), [])
 else none)
 else none))
 else none) := by kernel_rfl
theorem snd_limO (js : Nat → J) (ms : Nat → Ms) (n m : Nat) : SndA1 Tryz.prog 132 [.a [.lf n (fJ js), .lf m (fM ms)]] (bif decide (rErr js ms n m = 0) then .ow 71 2 ((List.range n).map (fun i : Nat => [.n .i64 (js i).lo, .n .i64 (js i).hi])) else .v (.l [])) := by
 refine qZY (N := 60) (LO := qJJ [([0, 1, 0, 1, 1, 1], sumAt (hL js ms n m 0 []) (fun K => (bif (decide (n ≤ 50)) then (K (.exit 0) ⟨[(3, .o 30)], [(30, .reg 71 2 ((List.range n).map (fun i : Nat => [.n .i64 (js i).lo, .n .i64 (js i).hi])))]⟩) else none)))]) tabOk mixed (OrL.ok (l := [(45, zQK [.a [.lf n (fJ js), .lf m (fM ms)]] (.v (.n .i64 (rErr js ms n m))))]) ⟨qHG (snd_crf js ms n m), trivial⟩) (fun p S hp => ?_) ?_
 ·refine qJY (L := jY T 132) (l := [([0, 1, 0, 1, 1, 1], sumAt (hL js ms n m 0 []) (fun K => (bif (decide (n ≤ 50)) then (K (.exit 0) ⟨[(3, .o 30)], [(30, .reg 71 2 ((List.range n).map (fun i : Nat => [.n .i64 (js i).lo, .n .i64 (js i).hi])))]⟩) else none)))]) (show AllP _ [([0, 1, 0, 1, 1, 1], sumAt (hL js ms n m 0 []) (fun K => (bif (decide (n ≤ 50)) then (K (.exit 0) ⟨[(3, .o 30)], [(30, .reg 71 2 ((List.range n).map (fun i : Nat => [.n .i64 (js i).lo, .n .i64 (js i).hi])))]⟩) else none)))] from ⟨qKG fun K r hr => ?_, trivial⟩) p S hp
  ·obtain ⟨hg, hr⟩ := yG hr
   have hn := of_decide_eq_true hg
   exact (lpL K js ms n m hn).trans hr
 ·refine (pxlimO js ms n m).trans ?_
  rw [zJZ, qUJ]
  by_cases h : rErr js ms n m = 0
  ·have := rerr_n h
   rw [decide_eq_true h, decide_eq_true (show n ≤ 50 by omega)]
   rfl
  ·rw [decide_eq_false h]
   rfl
theorem snd_lim (js : Nat → J) (ms : Nat → Ms) (n m : Nat) : SndA1 Tryz.prog 132 [.a [.lf n (fJ js), .lf m (fM ms)]] (.v (.lf (bif decide (rErr js ms n m = 0) then n else 0) (fB (limB js)))) := by
 have h0 := snd_limO js ms n m
 by_cases h : rErr js ms n m = 0
 ·rw [decide_eq_true h] at h0 ⊢
  exact snd_res (Same.lf rfl) (snd_own h0)
 ·rw [decide_eq_false h] at h0 ⊢
  exact snd_res (Same.lf rfl) h0
def unFB (f : Nat → List PV) : Nat → Iv := fun i => match f i with
 | [.n _ lo, .n _ hi] => ⟨lo, hi⟩
 | _ => ⟨0, 0⟩
theorem unFB_fB (bx : Nat → Iv) : unFB (fB bx) = bx := rfl
noncomputable def gFB (f : Nat → List PV) : Bool := @decide (f = fB (unFB f)) (Classical.propDecidable _)
theorem gFB_fB (bx : Nat → Iv) : gFB (fB bx) = true := @decide_eq_true _ (Classical.propDecidable _) rfl
noncomputable def zJY : List PV → Option (Bool × Ret) := fun ps => match ps with
 | [.lf k f] => some (decide (k ≤ 50) && gFB f, .v (.b (allV (unFB f) k)))
 | _ => none
theorem ok_av : OneOk Tryz.prog 108 zJY := by
 intro ps r hh
 unfold zJY at hh
 split at hh
 ·simp only [Option.some.injEq, Prod.mk.injEq, Bool.and_eq_true] at hh
  obtain ⟨⟨hk, hf⟩, rfl⟩ := hh
  rename_i k f
  have e : f = fB (unFB f) := @of_decide_eq_true _ (Classical.propDecidable _) hf
  have := snd_allv (unFB f) k (of_decide_eq_true hk)
  rw [← e] at this
  exact this
 ·cases hh
def hW (bx bz : Nat → Iv) (k l : Nat) (i : Int) : St := ⟨[(0, .v (.lf k (fB bx))), (1, .v (.lf l (fB bz))), (5, .v (.n .i64 i))], []⟩
set_option maxRecDepth 100000 in
theorem rdW (G : St → Option (Ret × Mem)) (K : Cont) (bx bz : Nat → Iv) (k l : Nat) (i : Int) : stepR 60 (cxF T (OrL.k ((108, zJY) :: L11)) 60 131 (ntmF T 131)) (ckF T (OrL.k ((108, zJY) :: L11)) 60) (jY T 131 [0, 1, 0, 1, 1]) ((cxF T (OrL.k ((108, zJY) :: L11)) 60 131 (ntmF T 131)).T.hint (cxF T (OrL.k ((108, zJY) :: L11)) 60 131 (ntmF T 131)).me (kK (jY T 131 [0, 1, 0, 1, 1]))) K G (hW bx bz k l i) =
 (bif (decide (i < (k : Int))) then (bif (inB i k) then (bif (inB i l) then (bif Iv.within (bx (i).toNat) (bz (i).toNat) then (G (hW bx bz k l (IntKind.i64.wrap (i + 1))))
 else (K .ret ⟨[(4, .v (.b false))], []⟩))
 else none)
 else none)
 else (K (.exit 0) ⟨[], []⟩)) := by kernel_rfl
theorem lpW (K : Cont) (bx bz : Nat → Iv) (k l : Nat) (hk : k ≤ 50) (hl : k = l) : LF 60 (cxF T (OrL.k ((108, zJY) :: L11)) 60 131 (ntmF T 131)) (ckF T (OrL.k ((108, zJY) :: L11)) 60) (jY T 131 [0, 1, 0, 1, 1]) ((cxF T (OrL.k ((108, zJY) :: L11)) 60 131 (ntmF T 131)).T.hint (cxF T (OrL.k ((108, zJY) :: L11)) 60 131 (ntmF T 131)).me (kK (jY T 131 [0, 1, 0, 1, 1]))) K 60 (hW bx bz k l 0) = bif (allN (fun i : Nat => Iv.within (bx i) (bz i)) k 0) then (K (.exit 0) ⟨[], []⟩) else (K .ret ⟨[(4, .v (.b false))], []⟩) := by
 refine (lp_all (c := k) (hW bx bz k l) (fun i : Nat => Iv.within (bx i) (bz i)) (K (.exit 0) ⟨[], []⟩) (fun i : Nat => (K .ret ⟨[(4, .v (.b false))], []⟩)) (fun G i hi => ?_) (fun G => ?_) k 0 60 (by omega) (by omega)).trans (runAll_all _ _ _ _ _)
 ·refine (rdW G K bx bz k l i).trans ?_
  rw [decide_eq_true (show (i : Int) < (k : Int) by omega), zQY (by omega), qUW (show i < k by omega), qUW (show i < l by omega), toN]
  cases Iv.within (bx i) (bz i) <;> rfl
 ·refine (rdW G K bx bz k l k).trans ?_
  rw [decide_eq_false (show ¬ (k : Int) < (k : Int) by omega)]
  rfl
def wIn (bx bz : Nat → Iv) (k l : Nat) : Bool := allV bx k && (allV bz l && (decide ((k : Int) = (l : Int)) && (allN (fun i : Nat => Iv.within (bx i) (bz i)) k 0)))
set_option maxRecDepth 100000 in
theorem pxwIn (bx bz : Nat → Iv) (k l : Nat) : runKL T (OrL.k ((108, zJY) :: L11)) (qJJ [([0, 1, 0, 1, 1], sumAt (hW bx bz k l 0) (fun K => (bif (decide ((k : Int) = (l : Int)) && decide (k ≤ 50)) then (bif (allN (fun i : Nat => Iv.within (bx i) (bz i)) k 0) then (K (.exit 0) ⟨[], []⟩) else (K .ret ⟨[(4, .v (.b false))], []⟩)) else none)))]) 60 131 [.lf k (fB bx), .lf l (fB bz)] =
 (bif (decide (k ≤ 50) && gFB (fB bx)) then (bif (allV (unFB (fB bx)) k) then (bif (decide (l ≤ 50) && gFB (fB bz)) then (bif (allV (unFB (fB bz)) l) then (bif (!decide ((k : Int) = (l : Int))) then some (.v (.b false), [])
 else (bif (gSt (hW bx bz k l 0) (hW bx bz k l 0)) then (bif (decide ((k : Int) = (l : Int)) && decide (k ≤ 50)) then (bif (allN (fun i : Nat => Iv.within (bx i) (bz i)) k 0) then some (.v (.b true), [])
 else some (.v (.b false), []))
 else none)
 else none))
 else some (.v (.b false), []))
 else none)
 else some (.v (.b false), []))
 else none) := by kernel_rfl
theorem snd_wIn (bx bz : Nat → Iv) (k l : Nat) (hk : k ≤ 50) (hl : l ≤ 50) : SndA1 Tryz.prog 131 [.lf k (fB bx), .lf l (fB bz)] (.v (.b (wIn bx bz k l))) := by
 refine qZY (N := 60) (LO := qJJ [([0, 1, 0, 1, 1], sumAt (hW bx bz k l 0) (fun K => (bif (decide ((k : Int) = (l : Int)) && decide (k ≤ 50)) then (bif (allN (fun i : Nat => Iv.within (bx i) (bz i)) k 0) then (K (.exit 0) ⟨[], []⟩) else (K .ret ⟨[(4, .v (.b false))], []⟩)) else none)))]) tabOk mixed (OrL.ok (l := ((108, zJY) :: L11)) ⟨ok_av, L11_ok⟩) (fun p S hp => ?_) ?_
 ·refine qJY (L := jY T 131) (l := [([0, 1, 0, 1, 1], sumAt (hW bx bz k l 0) (fun K => (bif (decide ((k : Int) = (l : Int)) && decide (k ≤ 50)) then (bif (allN (fun i : Nat => Iv.within (bx i) (bz i)) k 0) then (K (.exit 0) ⟨[], []⟩) else (K .ret ⟨[(4, .v (.b false))], []⟩)) else none)))]) (show AllP _ [([0, 1, 0, 1, 1], sumAt (hW bx bz k l 0) (fun K => (bif (decide ((k : Int) = (l : Int)) && decide (k ≤ 50)) then (bif (allN (fun i : Nat => Iv.within (bx i) (bz i)) k 0) then (K (.exit 0) ⟨[], []⟩) else (K .ret ⟨[(4, .v (.b false))], []⟩)) else none)))] from ⟨qKG fun K r hr => ?_, trivial⟩) p S hp
  ·obtain ⟨hg, hr⟩ := yG hr
   rw [Bool.and_eq_true] at hg
   have hk := of_decide_eq_true hg.2
   have hl : k = l := by have := of_decide_eq_true hg.1; omega
   exact (lpW K bx bz k l hk hl).trans hr
 ·refine (pxwIn bx bz k l).trans ?_
  unfold wIn
  rw [qUJ, decide_eq_true hk, decide_eq_true hl, gFB_fB, gFB_fB, unFB_fB, unFB_fB]
  cases allV bx k <;> cases allV bz l <;> cases decide ((k : Int) = (l : Int)) <;> cases (allN (fun i : Nat => Iv.within (bx i) (bz i)) k 0) <;> rfl
def rIn (js : Nat → J) (ms : Nat → Ms) (bx : Nat → Iv) (n m k : Nat) : Bool := wIn bx (limB js) k (bif decide (rErr js ms n m = 0) then n else 0) && decide (0 < (k : Int))
theorem snd_rIn (js : Nat → J) (ms : Nat → Ms) (bx : Nat → Iv) (n m k : Nat) (hk : k ≤ 50) : SndA1 Tryz.prog 86 [.a [.lf n (fJ js), .lf m (fM ms)], .lf k (fB bx)] (.v (.b (rIn js ms bx n m k))) := by
 have hl : (bif decide (rErr js ms n m = 0) then n else 0) ≤ 50 := by
  by_cases h : rErr js ms n m = 0
  ·have := rerr_n h
   rw [decide_eq_true h, cond_true]
   omega
  ·rw [decide_eq_false h, cond_false]
   omega
 refine uW (N := 60) tabOk mixed (OrL.ok (l := [(132, zQK [.a [.lf n (fJ js), .lf m (fM ms)]] (.v (.lf (bif decide (rErr js ms n m = 0) then n else 0) (fB (limB js))))), (131, zQK [.lf k (fB bx), .lf (bif decide (rErr js ms n m = 0) then n else 0) (fB (limB js))] (.v (.b (wIn bx (limB js) k (bif decide (rErr js ms n m = 0) then n else 0)))))]) ⟨qHG (snd_lim js ms n m), qHG (snd_wIn bx (limB js) k (bif decide (rErr js ms n m = 0) then n else 0) hk hl), trivial⟩) ?_
 refine (by kernel_rfl : _ = bif (g1 [.a [.lf n (fJ js), .lf m (fM ms)]]) then (bif (g1 [.lf k (fB bx), .lf (bif decide (rErr js ms n m = 0) then n else 0) (fB (limB js))]) then (bif (wIn bx (limB js) k (bif decide (rErr js ms n m = 0) then n else 0)) then (bif (decide (0 < (k : Int))) then some (.v (.b true), [])
 else some (.v (.b false), []))
 else some (.v (.b false), []))
 else none)
 else none).trans ?_
 unfold rIn
 rw [zJZ, zJZ]
 cases wIn bx (limB js) k (bif decide (rErr js ms n m = 0) then n else 0) <;> cases decide (0 < (k : Int)) <;> rfl
theorem within_valid {a b : Iv} (h : Iv.within a b = true) : Iv.valid a = true ∧ Iv.valid b = true := by
 unfold Iv.within at h
 simp only [Bool.and_eq_true] at h
 exact ⟨h.1.1.1, h.1.1.2⟩
theorem in_eq (js : Nat → J) (ms : Nat → Ms) (bx : Nat → Iv) (n m k : Nat) : rIn js ms bx n m k = pIn js ms bx n m k := by
 unfold rIn pIn
 by_cases h : rErr js ms n m = 0
 ·have hn := rerr_n h
  rw [decide_eq_true h, cond_true, Bool.true_and]
  unfold wIn insB
  by_cases e : n = k
  ·subst e
   rw [decide_eq_true (show (n : Int) = n from rfl), decide_eq_true (show 0 < (n : Int) by omega), Bool.and_true, Bool.true_and]
   cases ha : allN (fun i : Nat => Iv.within (bx i) ⟨(js i).lo, (js i).hi⟩) n 0 with
   | true =>
    have h1 : allV bx n = true := allN_iff.2 fun j h1 h2 => (within_valid (allN_iff.1 ha j h1 h2)).1
    have h2 : allV (limB js) n = true := allN_iff.2 fun j h1 h2 => (within_valid (allN_iff.1 ha j h1 h2)).2
    rw [h1, h2]
    exact ha
   | false =>
    have ha' : allN (fun i : Nat => Iv.within (bx i) (limB js i)) n 0 = false := ha
    rw [ha']
    simp only [Bool.and_false]
  ·rw [decide_eq_false (show ¬ (n : Int) = (k : Int) by omega), decide_eq_false (show ¬ (k : Int) = (n : Int) by omega)]
   simp only [Bool.and_false, Bool.false_and]
 ·rw [decide_eq_false h, cond_false, Bool.false_and]
  unfold wIn
  by_cases e : k = 0
  ·rw [decide_eq_false (show ¬ 0 < (k : Int) by omega), Bool.and_false]
  ·rw [decide_eq_false (show ¬ (k : Int) = ((0 : Nat) : Int) by omega)]
   simp only [Bool.and_false, Bool.false_and]
theorem pIn_n {js : Nat → J} {ms : Nat → Ms} {bx : Nat → Iv} {n m k : Nat} (h : pIn js ms bx n m k = true) : rErr js ms n m = 0 ∧ n = k ∧ ∀ i, i < n → Iv.valid (bx i) = true := by
 unfold pIn insB at h
 simp only [Bool.and_eq_true, decide_eq_true_eq] at h
 exact ⟨h.1, by omega, fun i hi => (within_valid (allN_iff.1 h.2.2 i (Nat.zero_le _) (by omega))).1⟩
def isB (bx : Nat → Iv) (n k : Nat) : Bool := decide ((k : Int) = (n : Int)) && allV bx k
theorem snd_isR (js : Nat → J) (ms : Nat → Ms) (bx : Nat → Iv) (n m k : Nat) (hk : k ≤ 50) : SndA1 Tryz.prog 66 [.a [.lf n (fJ js), .lf m (fM ms)], .lf k (fB bx)] (.v (.b (isB bx n k))) := by
 refine uW (N := 60) tabOk mixed (OrL.ok (l := [(108, zJY)]) ⟨ok_av, trivial⟩) ?_
 refine (by kernel_rfl : _ = bif (decide ((k : Int) = (n : Int))) then (bif (decide (k ≤ 50) && gFB (fB bx)) then (bif (allV (unFB (fB bx)) k) then some (.v (.b true), [])
 else some (.v (.b false), []))
 else none)
 else some (.v (.b false), [])).trans ?_
 unfold isB
 rw [decide_eq_true hk, gFB_fB, unFB_fB]
 cases decide ((k : Int) = (n : Int)) <;> cases allV bx k <;> rfl
set_option maxRecDepth 100000 in
theorem tr_cNv (a0 a1 : Int) : runK T (OrL.k L11) 60 106 [.a [.n .i64 a0, .n .i64 a1]] =
 some (.v (.b (!Iv.valid ⟨a0, a1⟩)), []) := by
 refine (by kernel_rfl : _ = bif Iv.valid ⟨a0, a1⟩ then some (.v (.b false), []) else some (.v (.b true), [])).trans ?_
 cases Iv.valid ⟨a0, a1⟩ <;> rfl
noncomputable def o_cNv : List PV → Option (Bool × Ret) := fun ps => match ps with
 | [.a a'] => (ivD a').bind fun a => some (true, .v (.b (!Iv.valid a)))
 | _ => none
theorem ok_cNv : OneOk Tryz.prog 106 o_cNv := by
 intro ps r h
 unfold o_cNv at h
 split at h
 ·simp only [Option.bind_eq_some_iff, Option.some.injEq, Prod.mk.injEq] at h
  obtain ⟨a, ha, hg, rfl⟩ := h
  rw [qGU ha]
  exact uW (N := 60) tabOk mixed (OrL.ok L11_ok) (tr_cNv _ _)
 ·cases h
noncomputable def L12 : OrL := (106, o_cNv) :: L11
theorem L12_ok : AllP (fun x : Nat × (List PV → Option (Bool × Ret)) => OneOk Tryz.prog x.1 x.2) L12 := ⟨ok_cNv, L11_ok⟩
def hI (bx : Nat → Iv) (k : Nat) (i : Int) : St := ⟨[(0, .v (.lf k (fB bx))), (1, .v (.f 106 [] [])), (7, .v (.n .i64 (k : Int))), (8, .v (.n .i64 i))], []⟩
set_option maxRecDepth 100000 in
theorem rdI (G : St → Option (Ret × Mem)) (K : Cont) (bx : Nat → Iv) (k : Nat) (i : Int) : stepR 60 (cxF T (OrL.k L12) 60 151 (ntmF T 151)) (ckF T (OrL.k L12) 60) (jY T 151 [0, 1, 0, 1]) ((cxF T (OrL.k L12) 60 151 (ntmF T 151)).T.hint (cxF T (OrL.k L12) 60 151 (ntmF T 151)).me (kK (jY T 151 [0, 1, 0, 1]))) K G (hI bx k i) =
 (bif (decide (i < (k : Int))) then (bif (inB i k) then (bif !Iv.valid (bx (i).toNat) then (K .ret ⟨[(4, .v (.n .i64 i))], []⟩)
 else (G (hI bx k (IntKind.i64.wrap (i + 1)))))
 else none)
 else (K (.exit 0) ⟨[], []⟩)) := by kernel_rfl
theorem lpI (K : Cont) (bx : Nat → Iv) (k : Nat) (hk : k ≤ 50) : LF 60 (cxF T (OrL.k L12) 60 151 (ntmF T 151)) (ckF T (OrL.k L12) 60) (jY T 151 [0, 1, 0, 1]) ((cxF T (OrL.k L12) 60 151 (ntmF T 151)).T.hint (cxF T (OrL.k L12) 60 151 (ntmF T 151)).me (kK (jY T 151 [0, 1, 0, 1]))) K 60 (hI bx k 0) = bif (allN (fun i : Nat => Iv.valid (bx i)) k 0) then (K (.exit 0) ⟨[], []⟩) else (K .ret ⟨[(4, .v (.n .i64 ((qJH (fun i : Nat => Iv.valid (bx i)) k 0 : Nat) : Int)))], []⟩) := by
 refine (lp_all (c := k) (hI bx k) (fun i : Nat => Iv.valid (bx i)) (K (.exit 0) ⟨[], []⟩) (fun i : Nat => (K .ret ⟨[(4, .v (.n .i64 (i : Int)))], []⟩)) (fun G i hi => ?_) (fun G => ?_) k 0 60 (by omega) (by omega)).trans (runAll_first _ _ _ _ _)
 ·refine (rdI G K bx k i).trans ?_
  rw [decide_eq_true (show (i : Int) < (k : Int) by omega), zQY (by omega), qUW (show i < k by omega), toN]
  cases Iv.valid (bx i) <;> rfl
 ·refine (rdI G K bx k k).trans ?_
  rw [decide_eq_false (show ¬ (k : Int) < (k : Int) by omega)]
  rfl
set_option maxRecDepth 100000 in
theorem pxidx (bx : Nat → Iv) (k : Nat) : runKL T (OrL.k L12) (qJJ [([0, 1, 0, 1], sumAt (hI bx k 0) (fun K => (bif (decide (k ≤ 50)) then (bif (allN (fun i : Nat => Iv.valid (bx i)) k 0) then (K (.exit 0) ⟨[], []⟩) else (K .ret ⟨[(4, .v (.n .i64 ((qJH (fun i : Nat => Iv.valid (bx i)) k 0 : Nat) : Int)))], []⟩)) else none)))]) 60 151 [.lf k (fB bx), .f 106 [] []] =
 (bif (gSt (hI bx k 0) (hI bx k 0)) then (bif (decide (k ≤ 50)) then (bif (allN (fun i : Nat => Iv.valid (bx i)) k 0) then some (.v (.n .i64 (-1)), [])
 else some (.v (.n .i64 ((qJH (fun i : Nat => Iv.valid (bx i)) k 0 : Nat) : Int)), []))
 else none)
 else none) := by kernel_rfl
theorem snd_idx (bx : Nat → Iv) (k : Nat) (hk : k ≤ 50) : SndA1 Tryz.prog 151 [.lf k (fB bx), .f 106 [] []] (.v (.n .i64 (bif allV bx k then -1 else ((qJH (fun i : Nat => Iv.valid (bx i)) k 0 : Nat) : Int)))) := by
 refine qZY (N := 60) (LO := qJJ [([0, 1, 0, 1], sumAt (hI bx k 0) (fun K => (bif (decide (k ≤ 50)) then (bif (allN (fun i : Nat => Iv.valid (bx i)) k 0) then (K (.exit 0) ⟨[], []⟩) else (K .ret ⟨[(4, .v (.n .i64 ((qJH (fun i : Nat => Iv.valid (bx i)) k 0 : Nat) : Int)))], []⟩)) else none)))]) tabOk mixed (OrL.ok (l := L12) L12_ok) (fun p S hp => ?_) ?_
 ·refine qJY (L := jY T 151) (l := [([0, 1, 0, 1], sumAt (hI bx k 0) (fun K => (bif (decide (k ≤ 50)) then (bif (allN (fun i : Nat => Iv.valid (bx i)) k 0) then (K (.exit 0) ⟨[], []⟩) else (K .ret ⟨[(4, .v (.n .i64 ((qJH (fun i : Nat => Iv.valid (bx i)) k 0 : Nat) : Int)))], []⟩)) else none)))]) (show AllP _ [([0, 1, 0, 1], sumAt (hI bx k 0) (fun K => (bif (decide (k ≤ 50)) then (bif (allN (fun i : Nat => Iv.valid (bx i)) k 0) then (K (.exit 0) ⟨[], []⟩) else (K .ret ⟨[(4, .v (.n .i64 ((qJH (fun i : Nat => Iv.valid (bx i)) k 0 : Nat) : Int)))], []⟩)) else none)))] from ⟨qKG fun K r hr => ?_, trivial⟩) p S hp
  ·obtain ⟨hg, hr⟩ := yG hr
   have hk := of_decide_eq_true hg
   exact (lpI K bx k hk).trans hr
 ·refine (pxidx bx k).trans ?_
  unfold allV
  rw [qUJ, decide_eq_true hk]
  cases (allN (fun i : Nat => Iv.valid (bx i)) k 0) <;> rfl
theorem snd_conB (bx : Nat → Iv) (k : Nat) (hk : k ≤ 50) : SndA1 Tryz.prog 105 [.lf k (fB bx), .f 106 [] []] (.v (.b (!allV bx k))) := by
 refine uW (N := 60) tabOk mixed (OrL.ok (l := [(151, zQK [.lf k (fB bx), .f 106 [] []] (.v (.n .i64 (bif allV bx k then -1 else ((qJH (fun i : Nat => Iv.valid (bx i)) k 0 : Nat) : Int)))))]) ⟨qHG (snd_idx bx k hk), trivial⟩) ?_
 refine (by kernel_rfl : _ = bif (g1 [.lf k (fB bx), .f 106 [] []]) then (bif (decide (0 ≤ (bif allV bx k then -1 else ((qJH (fun i : Nat => Iv.valid (bx i)) k 0 : Nat) : Int)))) then some (.v (.b true), [])
 else some (.v (.b false), []))
 else none).trans ?_
 rw [zJZ]
 cases allV bx k with
 | true => rfl
 | false =>
  rw [cond_false, decide_eq_true (show 0 ≤ ((qJH (fun i : Nat => Iv.valid (bx i)) k 0 : Nat) : Int) by omega)]
  rfl
theorem snd_isP (js : Nat → J) (ms : Nat → Ms) (bx : Nat → Iv) (n m k : Nat) (hk : k ≤ 50) : SndA1 Tryz.prog 64 [.a [.lf n (fJ js), .lf m (fM ms)], .lf k (fB bx)] (.v (.b (isB bx n k))) := by
 refine uW (N := 60) tabOk mixed (OrL.ok (l := [(105, zQK [.lf k (fB bx), .f 106 [] []] (.v (.b (!allV bx k))))]) ⟨qHG (snd_conB bx k hk), trivial⟩) ?_
 refine (by kernel_rfl : _ = bif (decide ((k : Int) = (n : Int))) then (bif (g1 [.lf k (fB bx), .f 106 [] []]) then (bif (!allV bx k) then some (.v (.b false), [])
 else some (.v (.b true), []))
 else none)
 else some (.v (.b false), [])).trans ?_
 unfold isB
 rw [zJZ]
 cases decide ((k : Int) = (n : Int)) <;> cases allV bx k <;> rfl
end Go.Proofs.YtmbnpjpggccefaaGreat.Nee

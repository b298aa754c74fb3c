/- Part 13 of the texts behind the last one: rules and contracts. No condition. -/
import Derived.Test.YtnlnbnjnapofmaaGreatST12
namespace Go.Proofs.YtnlnbnjnapofmaaGreat.Pc
open Go.Rx Rt Go.Sx Go.RowKit
open Ov Ow
def jpN (c : UInt8) (j : J) : List PV := [.s (ByteArray.mk #[c]), .n .i64 j.kind, .n .i64 j.parent, .n .i64 j.off.x, .n .i64 j.off.y, .n .i64 j.off.z, .n .i64 j.lo, .n .i64 j.hi, .n .i64 j.weight, .n .i64 j.speed, .n .i64 j.accel, .n .i64 j.torque]
theorem jpN_eq {c : UInt8} {j : J} (h : j.name = ByteArray.mk #[c]) : jp j = jpN c j := by unfold jp jpN; rw [h]
theorem letter0 : letterB 0 = ByteArray.mk #[97] := by kernel_rfl
theorem letter1 : letterB 1 = ByteArray.mk #[98] := by kernel_rfl
theorem letter2 : letterB 2 = ByteArray.mk #[99] := by kernel_rfl
def F_n : Int → Option (Ret × Mem) := fun v => some (.v (.n .i64 v), [])
def JF (i : Int) (j : J) : Prop := (0 ≤ j.kind ∧ j.kind ≤ 6) ∧ (-1 ≤ j.parent ∧ j.parent < i) ∧ (-4194304 ≤ j.off.x ∧ j.off.x ≤ 4194304) ∧ (-4194304 ≤ j.off.y ∧ j.off.y ≤ 4194304) ∧ (-4194304 ≤ j.off.z ∧ j.off.z ≤ 4194304) ∧ (j.lo ≤ j.hi ∧ -limK j.kind ≤ j.lo ∧ j.hi ≤ limK j.kind) ∧
    (1 ≤ j.weight ∧ j.weight ≤ 1024) ∧ (1 ≤ j.speed ∧ j.speed ≤ 1048576) ∧ (1 ≤ j.accel ∧ j.accel ≤ 1048576) ∧ (1 ≤ j.torque ∧ j.torque ≤ 1099511627776)
theorem jf_of {js : List J} {i : Nat} {j : J} (h : JOK js i j) : JF i j := by
  obtain ⟨c, a1, a2, a3, a4, a5, a6⟩ := h
  exact a6
def cjT {α : Type} (f : Int → α) (i : Int) (j : J) : α := (bif (decide (j.kind < 0)) then (f 803) else (bif (decide (6 < j.kind)) then (f 803) else (bif (decide (j.parent < (-1))) then (f 804) else (bif (decide (i ≤ j.parent)) then (f 804) else (bif (decide (j.off.x < (-4194304))) then (f 805) else (bif (decide (4194304 < j.off.x)) then (f 805) else (bif (decide (j.off.y < (-4194304))) then (f 805) else (bif (decide (4194304 < j.off.y)) then (f 805) else (bif (decide (j.off.z < (-4194304))) then (f 805) else (bif (decide (4194304 < j.off.z)) then (f 805) else (bif (decide (j.kind = 0)) then (bif (decide (j.hi < j.lo)) then (f 806) else (bif (decide (j.lo < 0)) then (f 806) else (bif (decide (0 < j.hi)) then (f 806) else (bif (decide (1 ≤ j.weight)) then (bif (decide (j.weight ≤ 1024)) then (bif (decide (1 ≤ j.speed)) then (bif (decide (j.speed ≤ 1048576)) then (bif (decide (1 ≤ j.accel)) then (bif (decide (j.accel ≤ 1048576)) then (bif (decide (1 ≤ j.torque)) then (bif (decide (j.torque ≤ 1099511627776)) then (f 0) else (f 807)) else (f 807)) else (f 807)) else (f 807)) else (f 807)) else (f 807)) else (f 807)) else (f 807))))) else (bif (decide (j.kind = 1)) then (bif (decide (j.hi < j.lo)) then (f 806) else (bif (decide (j.lo < (-524288))) then (f 806) else (bif (decide (524288 < j.hi)) then (f 806) else (bif (decide (1 ≤ j.weight)) then (bif (decide (j.weight ≤ 1024)) then (bif (decide (1 ≤ j.speed)) then (bif (decide (j.speed ≤ 1048576)) then (bif (decide (1 ≤ j.accel)) then (bif (decide (j.accel ≤ 1048576)) then (bif (decide (1 ≤ j.torque)) then (bif (decide (j.torque ≤ 1099511627776)) then (f 0) else (f 807)) else (f 807)) else (f 807)) else (f 807)) else (f 807)) else (f 807)) else (f 807)) else (f 807))))) else (bif (decide (j.kind = 2)) then (bif (decide (j.hi < j.lo)) then (f 806) else (bif (decide (j.lo < (-524288))) then (f 806) else (bif (decide (524288 < j.hi)) then (f 806) else (bif (decide (1 ≤ j.weight)) then (bif (decide (j.weight ≤ 1024)) then (bif (decide (1 ≤ j.speed)) then (bif (decide (j.speed ≤ 1048576)) then (bif (decide (1 ≤ j.accel)) then (bif (decide (j.accel ≤ 1048576)) then (bif (decide (1 ≤ j.torque)) then (bif (decide (j.torque ≤ 1099511627776)) then (f 0) else (f 807)) else (f 807)) else (f 807)) else (f 807)) else (f 807)) else (f 807)) else (f 807)) else (f 807))))) else (bif (decide (j.kind = 3)) then (bif (decide (j.hi < j.lo)) then (f 806) else (bif (decide (j.lo < (-524288))) then (f 806) else (bif (decide (524288 < j.hi)) then (f 806) else (bif (decide (1 ≤ j.weight)) then (bif (decide (j.weight ≤ 1024)) then (bif (decide (1 ≤ j.speed)) then (bif (decide (j.speed ≤ 1048576)) then (bif (decide (1 ≤ j.accel)) then (bif (decide (j.accel ≤ 1048576)) then (bif (decide (1 ≤ j.torque)) then (bif (decide (j.torque ≤ 1099511627776)) then (f 0) else (f 807)) else (f 807)) else (f 807)) else (f 807)) else (f 807)) else (f 807)) else (f 807)) else (f 807))))) else (bif (decide (j.hi < j.lo)) then (f 806) else (bif (decide (j.lo < (-4194304))) then (f 806) else (bif (decide (4194304 < j.hi)) then (f 806) else (bif (decide (1 ≤ j.weight)) then (bif (decide (j.weight ≤ 1024)) then (bif (decide (1 ≤ j.speed)) then (bif (decide (j.speed ≤ 1048576)) then (bif (decide (1 ≤ j.accel)) then (bif (decide (j.accel ≤ 1048576)) then (bif (decide (1 ≤ j.torque)) then (bif (decide (j.torque ≤ 1099511627776)) then (f 0) else (f 807)) else (f 807)) else (f 807)) else (f 807)) else (f 807)) else (f 807)) else (f 807)) else (f 807)))))))))))))))))))
theorem cjT_ok {α : Type} (f : Int → α) {i : Int} {j : J} (h : JF i j) : cjT f i j = f 0 := by
  obtain ⟨h1, h2, h3, h4, h5, h6, h7, h8, h9, h10⟩ := h
  have a0 : decide (j.kind < 0) = false := decide_eq_false (by omega)
  have a1 : decide (6 < j.kind) = false := decide_eq_false (by omega)
  have a2 : decide (j.parent < (-1)) = false := decide_eq_false (by omega)
  have a3 : decide (i ≤ j.parent) = false := decide_eq_false (by omega)
  have a4 : decide (j.off.x < (-4194304)) = false := decide_eq_false (by omega)
  have a5 : decide (4194304 < j.off.x) = false := decide_eq_false (by omega)
  have a6 : decide (j.off.y < (-4194304)) = false := decide_eq_false (by omega)
  have a7 : decide (4194304 < j.off.y) = false := decide_eq_false (by omega)
  have a8 : decide (j.off.z < (-4194304)) = false := decide_eq_false (by omega)
  have a9 : decide (4194304 < j.off.z) = false := decide_eq_false (by omega)
  have a10 : decide (j.hi < j.lo) = false := decide_eq_false (by omega)
  have b0 : decide (1 ≤ j.weight) = true := decide_eq_true (by omega)
  have b1 : decide (j.weight ≤ 1024) = true := decide_eq_true (by omega)
  have b2 : decide (1 ≤ j.speed) = true := decide_eq_true (by omega)
  have b3 : decide (j.speed ≤ 1048576) = true := decide_eq_true (by omega)
  have b4 : decide (1 ≤ j.accel) = true := decide_eq_true (by omega)
  have b5 : decide (j.accel ≤ 1048576) = true := decide_eq_true (by omega)
  have b6 : decide (1 ≤ j.torque) = true := decide_eq_true (by omega)
  have b7 : decide (j.torque ≤ 1099511627776) = true := decide_eq_true (by omega)
  unfold cjT
  rcases (by omega : j.kind = 0 ∨ j.kind = 1 ∨ j.kind = 2 ∨ j.kind = 3 ∨ 4 ≤ j.kind) with h | h | h | h | h
  · have hm : limK j.kind = 0 := by unfold limK; rw [if_neg (by omega), if_neg (by omega)]
    rw [hm] at h6
    have c0 : decide (j.lo < 0) = false := decide_eq_false (by omega)
    have c1 : decide (0 < j.hi) = false := decide_eq_false (by omega)
    simp only [a0, a1, a2, a3, a4, a5, a6, a7, a8, a9, a10, b0, b1, b2, b3, b4, b5, b6, b7, c0, c1, decide_eq_true h, cond_true, cond_false]
  · have hm : limK j.kind = 524288 := by unfold limK; rw [if_pos (by omega)]
    rw [hm] at h6
    have c0 : decide (j.lo < (-524288)) = false := decide_eq_false (by omega)
    have c1 : decide (524288 < j.hi) = false := decide_eq_false (by omega)
    simp only [a0, a1, a2, a3, a4, a5, a6, a7, a8, a9, a10, b0, b1, b2, b3, b4, b5, b6, b7, c0, c1, decide_eq_false (show ¬ j.kind = 0 by omega), decide_eq_true h, cond_true, cond_false]
  · have hm : limK j.kind = 524288 := by unfold limK; rw [if_pos (by omega)]
    rw [hm] at h6
    have c0 : decide (j.lo < (-524288)) = false := decide_eq_false (by omega)
    have c1 : decide (524288 < j.hi) = false := decide_eq_false (by omega)
    simp only [a0, a1, a2, a3, a4, a5, a6, a7, a8, a9, a10, b0, b1, b2, b3, b4, b5, b6, b7, c0, c1, decide_eq_false (show ¬ j.kind = 0 by omega), decide_eq_false (show ¬ j.kind = 1 by omega), decide_eq_true h, cond_true, cond_false]
  · have hm : limK j.kind = 524288 := by unfold limK; rw [if_pos (by omega)]
    rw [hm] at h6
    have c0 : decide (j.lo < (-524288)) = false := decide_eq_false (by omega)
    have c1 : decide (524288 < j.hi) = false := decide_eq_false (by omega)
    simp only [a0, a1, a2, a3, a4, a5, a6, a7, a8, a9, a10, b0, b1, b2, b3, b4, b5, b6, b7, c0, c1, decide_eq_false (show ¬ j.kind = 0 by omega), decide_eq_false (show ¬ j.kind = 1 by omega), decide_eq_false (show ¬ j.kind = 2 by omega), decide_eq_true h, cond_true, cond_false]
  · have hm : limK j.kind = 4194304 := by unfold limK; rw [if_neg (by omega), if_pos (by omega)]
    rw [hm] at h6
    have c0 : decide (j.lo < (-4194304)) = false := decide_eq_false (by omega)
    have c1 : decide (4194304 < j.hi) = false := decide_eq_false (by omega)
    simp only [a0, a1, a2, a3, a4, a5, a6, a7, a8, a9, a10, b0, b1, b2, b3, b4, b5, b6, b7, c0, c1, decide_eq_false (show ¬ j.kind = 0 by omega), decide_eq_false (show ¬ j.kind = 1 by omega), decide_eq_false (show ¬ j.kind = 2 by omega), decide_eq_false (show ¬ j.kind = 3 by omega), cond_true, cond_false]
set_option maxRecDepth 100000 in
theorem tr_cj1_0 (j0 : J) : runK T (OrL.k []) 60 91 [.l [jpN 97 j0], .n .i64 0] = cjT F_n 0 j0 := by kernel_rfl
noncomputable def o_cj1 (JL : PV) : List PV → Option (Bool × Ret) := fun ps => match ps with
  | [l, .n .i64 i] => some (gEq l JL && decide (0 ≤ i ∧ i < 1), .v (.n .i64 0))
  | _ => none
theorem ok_cj1 {j0 : J} (h0 : JF 0 j0) : OneOk Tryz.prog 91 (o_cj1 (.l [jpN 97 j0])) := by
  intro ps r hh
  unfold o_cj1 at hh
  split at hh
  · simp only [Option.some.injEq, Prod.mk.injEq, Bool.and_eq_true, decide_eq_true_eq] at hh
    obtain ⟨⟨hg, hi⟩, rfl⟩ := hh
    obtain rfl := gEq_eq hg
    rename_i i
    rcases (by omega : i = 0) with rfl
    exact jX (N := 60) tabOk mixed (OrL.ok (l := []) trivial) ((tr_cj1_0 j0).trans (cjT_ok F_n h0))
  · cases hh
set_option maxRecDepth 100000 in
theorem tr_cr1_0 (j0 : J) : runK T (OrL.k [(91, o_cj1 (.l [jpN 97 j0]))]) 60 55 [.a [.l [jpN 97 j0], .l []]] =
 bif (gEq (.l [jpN 97 j0]) (.l [jpN 97 j0]) && decide (0 ≤ (0 : Int) ∧ (0 : Int) < 1)) then some (.v (.n .i64 0), [])
 else none := by kernel_rfl
theorem snd_cr1_0 {j0 : J} (h0 : JF 0 j0)  : SndA1 Tryz.prog 55 [.a [.l [jpN 97 j0], .l []]] (.v (.n .i64 0)) := by
  refine jX (N := 60) tabOk mixed (OrL.ok (l := [(91, o_cj1 (.l [jpN 97 j0]))]) ⟨ok_cj1 h0, trivial⟩) ?_
  rw [tr_cr1_0]
  simp only [uY, Bool.true_and, decide_eq_true (show (0 : Int) ≤ 0 ∧ (0 : Int) < 1 by decide), cond_true, cond_false]
set_option maxRecDepth 100000 in
theorem tr_cr1_1 (j0 : J) (m0 : Ms) : runK T (OrL.k [(91, o_cj1 (.l [jpN 97 j0]))]) 60 55 [.a [.l [jpN 97 j0], .l [mp m0]]] =
 bif (gEq (.l [jpN 97 j0]) (.l [jpN 97 j0]) && decide (0 ≤ (0 : Int) ∧ (0 : Int) < 1)) then (bif (decide (m0.link < 0)) then some (.v (.n .i64 808), [])
 else bif (decide (1 ≤ m0.link)) then some (.v (.n .i64 808), [])
 else bif (decide (1 ≤ m0.mass)) then (bif (decide (m0.mass ≤ 65536)) then (bif (decide (m0.p.x < (-4194304))) then some (.v (.n .i64 808), [])
 else bif (decide (4194304 < m0.p.x)) then some (.v (.n .i64 808), [])
 else bif (decide (m0.p.y < (-4194304))) then some (.v (.n .i64 808), [])
 else bif (decide (4194304 < m0.p.y)) then some (.v (.n .i64 808), [])
 else bif (decide (m0.p.z < (-4194304))) then some (.v (.n .i64 808), [])
 else bif (decide (4194304 < m0.p.z)) then some (.v (.n .i64 808), [])
 else some (.v (.n .i64 0), []))
 else some (.v (.n .i64 808), []))
 else some (.v (.n .i64 808), []))
 else none := by kernel_rfl
theorem snd_cr1_1 {j0 : J} {m0 : Ms} (h0 : JF 0 j0) (q0 : MB 1 m0) : SndA1 Tryz.prog 55 [.a [.l [jpN 97 j0], .l [mp m0]]] (.v (.n .i64 0)) := by
  refine jX (N := 60) tabOk mixed (OrL.ok (l := [(91, o_cj1 (.l [jpN 97 j0]))]) ⟨ok_cj1 h0, trivial⟩) ?_
  rw [tr_cr1_1]
  obtain ⟨⟨u00, u01⟩, ⟨u02, u03⟩, ⟨u04, u05⟩, ⟨u06, u07⟩, u08, u09⟩ := q0
  simp only [uY, Bool.true_and, decide_eq_true (show (0 : Int) ≤ 0 ∧ (0 : Int) < 1 by decide), cond_true, cond_false, decide_eq_false (show ¬ m0.link < 0 by omega), decide_eq_false (show ¬ 1 ≤ m0.link by omega), decide_eq_true (show 1 ≤ m0.mass by omega), decide_eq_true (show m0.mass ≤ 65536 by omega), decide_eq_false (show ¬ m0.p.x < (-4194304) by omega), decide_eq_false (show ¬ 4194304 < m0.p.x by omega), decide_eq_false (show ¬ m0.p.y < (-4194304) by omega), decide_eq_false (show ¬ 4194304 < m0.p.y by omega), decide_eq_false (show ¬ m0.p.z < (-4194304) by omega), decide_eq_false (show ¬ 4194304 < m0.p.z by omega)]
set_option maxRecDepth 100000 in
theorem tr_cr1_2 (j0 : J) (m0 m1 : Ms) : runK T (OrL.k [(91, o_cj1 (.l [jpN 97 j0]))]) 60 55 [.a [.l [jpN 97 j0], .l [mp m0, mp m1]]] =
 bif (gEq (.l [jpN 97 j0]) (.l [jpN 97 j0]) && decide (0 ≤ (0 : Int) ∧ (0 : Int) < 1)) then (bif (decide (m0.link < 0)) then some (.v (.n .i64 808), [])
 else bif (decide (1 ≤ m0.link)) then some (.v (.n .i64 808), [])
 else bif (decide (1 ≤ m0.mass)) then (bif (decide (m0.mass ≤ 65536)) then (bif (decide (m0.p.x < (-4194304))) then some (.v (.n .i64 808), [])
 else bif (decide (4194304 < m0.p.x)) then some (.v (.n .i64 808), [])
 else bif (decide (m0.p.y < (-4194304))) then some (.v (.n .i64 808), [])
 else bif (decide (4194304 < m0.p.y)) then some (.v (.n .i64 808), [])
 else bif (decide (m0.p.z < (-4194304))) then some (.v (.n .i64 808), [])
 else bif (decide (4194304 < m0.p.z)) then some (.v (.n .i64 808), [])
 else bif (decide (m1.link < 0)) then some (.v (.n .i64 808), [])
 else bif (decide (1 ≤ m1.link)) then some (.v (.n .i64 808), [])
 else bif (decide (1 ≤ m1.mass)) then (bif (decide (m1.mass ≤ 65536)) then (bif (decide (m1.p.x < (-4194304))) then some (.v (.n .i64 808), [])
 else bif (decide (4194304 < m1.p.x)) then some (.v (.n .i64 808), [])
 else bif (decide (m1.p.y < (-4194304))) then some (.v (.n .i64 808), [])
 else bif (decide (4194304 < m1.p.y)) then some (.v (.n .i64 808), [])
 else bif (decide (m1.p.z < (-4194304))) then some (.v (.n .i64 808), [])
 else bif (decide (4194304 < m1.p.z)) then some (.v (.n .i64 808), [])
 else some (.v (.n .i64 0), []))
 else some (.v (.n .i64 808), []))
 else some (.v (.n .i64 808), []))
 else some (.v (.n .i64 808), []))
 else some (.v (.n .i64 808), []))
 else none := by kernel_rfl
theorem snd_cr1_2 {j0 : J} {m0 m1 : Ms} (h0 : JF 0 j0) (q0 : MB 1 m0) (q1 : MB 1 m1) : SndA1 Tryz.prog 55 [.a [.l [jpN 97 j0], .l [mp m0, mp m1]]] (.v (.n .i64 0)) := by
  refine jX (N := 60) tabOk mixed (OrL.ok (l := [(91, o_cj1 (.l [jpN 97 j0]))]) ⟨ok_cj1 h0, trivial⟩) ?_
  rw [tr_cr1_2]
  obtain ⟨⟨u00, u01⟩, ⟨u02, u03⟩, ⟨u04, u05⟩, ⟨u06, u07⟩, u08, u09⟩ := q0
  obtain ⟨⟨u10, u11⟩, ⟨u12, u13⟩, ⟨u14, u15⟩, ⟨u16, u17⟩, u18, u19⟩ := q1
  simp only [uY, Bool.true_and, decide_eq_true (show (0 : Int) ≤ 0 ∧ (0 : Int) < 1 by decide), cond_true, cond_false, decide_eq_false (show ¬ m0.link < 0 by omega), decide_eq_false (show ¬ 1 ≤ m0.link by omega), decide_eq_true (show 1 ≤ m0.mass by omega), decide_eq_true (show m0.mass ≤ 65536 by omega), decide_eq_false (show ¬ m0.p.x < (-4194304) by omega), decide_eq_false (show ¬ 4194304 < m0.p.x by omega), decide_eq_false (show ¬ m0.p.y < (-4194304) by omega), decide_eq_false (show ¬ 4194304 < m0.p.y by omega), decide_eq_false (show ¬ m0.p.z < (-4194304) by omega), decide_eq_false (show ¬ 4194304 < m0.p.z by omega), decide_eq_false (show ¬ m1.link < 0 by omega), decide_eq_false (show ¬ 1 ≤ m1.link by omega), decide_eq_true (show 1 ≤ m1.mass by omega), decide_eq_true (show m1.mass ≤ 65536 by omega), decide_eq_false (show ¬ m1.p.x < (-4194304) by omega), decide_eq_false (show ¬ 4194304 < m1.p.x by omega), decide_eq_false (show ¬ m1.p.y < (-4194304) by omega), decide_eq_false (show ¬ 4194304 < m1.p.y by omega), decide_eq_false (show ¬ m1.p.z < (-4194304) by omega), decide_eq_false (show ¬ 4194304 < m1.p.z by omega)]
set_option maxRecDepth 100000 in
theorem tr_cj2_0 (j0 j1 : J) : runK T (OrL.k []) 60 91 [.l [jpN 97 j0, jpN 98 j1], .n .i64 0] = cjT F_n 0 j0 := by kernel_rfl
set_option maxRecDepth 100000 in
theorem tr_cj2_1 (j0 j1 : J) : runK T (OrL.k []) 60 91 [.l [jpN 97 j0, jpN 98 j1], .n .i64 1] = cjT F_n 1 j1 := by kernel_rfl
noncomputable def o_cj2 (JL : PV) : List PV → Option (Bool × Ret) := fun ps => match ps with
  | [l, .n .i64 i] => some (gEq l JL && decide (0 ≤ i ∧ i < 2), .v (.n .i64 0))
  | _ => none
theorem ok_cj2 {j0 j1 : J} (h0 : JF 0 j0) (h1 : JF 1 j1) : OneOk Tryz.prog 91 (o_cj2 (.l [jpN 97 j0, jpN 98 j1])) := by
  intro ps r hh
  unfold o_cj2 at hh
  split at hh
  · simp only [Option.some.injEq, Prod.mk.injEq, Bool.and_eq_true, decide_eq_true_eq] at hh
    obtain ⟨⟨hg, hi⟩, rfl⟩ := hh
    obtain rfl := gEq_eq hg
    rename_i i
    rcases (by omega : i = 0 ∨ i = 1) with rfl | rfl
    · exact jX (N := 60) tabOk mixed (OrL.ok (l := []) trivial) ((tr_cj2_0 j0 j1).trans (cjT_ok F_n h0))
    · exact jX (N := 60) tabOk mixed (OrL.ok (l := []) trivial) ((tr_cj2_1 j0 j1).trans (cjT_ok F_n h1))
  · cases hh
set_option maxRecDepth 100000 in
theorem tr_cr2_0 (j0 j1 : J) : runK T (OrL.k [(91, o_cj2 (.l [jpN 97 j0, jpN 98 j1]))]) 60 55 [.a [.l [jpN 97 j0, jpN 98 j1], .l []]] =
 bif (gEq (.l [jpN 97 j0, jpN 98 j1]) (.l [jpN 97 j0, jpN 98 j1]) && decide (0 ≤ (0 : Int) ∧ (0 : Int) < 2)) then (bif (gEq (.l [jpN 97 j0, jpN 98 j1]) (.l [jpN 97 j0, jpN 98 j1]) && decide (0 ≤ (1 : Int) ∧ (1 : Int) < 2)) then some (.v (.n .i64 0), [])
 else none)
 else none := by kernel_rfl
theorem snd_cr2_0 {j0 j1 : J} (h0 : JF 0 j0) (h1 : JF 1 j1)  : SndA1 Tryz.prog 55 [.a [.l [jpN 97 j0, jpN 98 j1], .l []]] (.v (.n .i64 0)) := by
  refine jX (N := 60) tabOk mixed (OrL.ok (l := [(91, o_cj2 (.l [jpN 97 j0, jpN 98 j1]))]) ⟨ok_cj2 h0 h1, trivial⟩) ?_
  rw [tr_cr2_0]
  simp only [uY, Bool.true_and, decide_eq_true (show (0 : Int) ≤ 0 ∧ (0 : Int) < 2 by decide), decide_eq_true (show (0 : Int) ≤ 1 ∧ (1 : Int) < 2 by decide), cond_true, cond_false]
set_option maxRecDepth 100000 in
theorem tr_cr2_1 (j0 j1 : J) (m0 : Ms) : runK T (OrL.k [(91, o_cj2 (.l [jpN 97 j0, jpN 98 j1]))]) 60 55 [.a [.l [jpN 97 j0, jpN 98 j1], .l [mp m0]]] =
 bif (gEq (.l [jpN 97 j0, jpN 98 j1]) (.l [jpN 97 j0, jpN 98 j1]) && decide (0 ≤ (0 : Int) ∧ (0 : Int) < 2)) then (bif (gEq (.l [jpN 97 j0, jpN 98 j1]) (.l [jpN 97 j0, jpN 98 j1]) && decide (0 ≤ (1 : Int) ∧ (1 : Int) < 2)) then (bif (decide (m0.link < 0)) then some (.v (.n .i64 808), [])
 else bif (decide (2 ≤ m0.link)) then some (.v (.n .i64 808), [])
 else bif (decide (1 ≤ m0.mass)) then (bif (decide (m0.mass ≤ 65536)) then (bif (decide (m0.p.x < (-4194304))) then some (.v (.n .i64 808), [])
 else bif (decide (4194304 < m0.p.x)) then some (.v (.n .i64 808), [])
 else bif (decide (m0.p.y < (-4194304))) then some (.v (.n .i64 808), [])
 else bif (decide (4194304 < m0.p.y)) then some (.v (.n .i64 808), [])
 else bif (decide (m0.p.z < (-4194304))) then some (.v (.n .i64 808), [])
 else bif (decide (4194304 < m0.p.z)) then some (.v (.n .i64 808), [])
 else some (.v (.n .i64 0), []))
 else some (.v (.n .i64 808), []))
 else some (.v (.n .i64 808), []))
 else none)
 else none := by kernel_rfl
theorem snd_cr2_1 {j0 j1 : J} {m0 : Ms} (h0 : JF 0 j0) (h1 : JF 1 j1) (q0 : MB 2 m0) : SndA1 Tryz.prog 55 [.a [.l [jpN 97 j0, jpN 98 j1], .l [mp m0]]] (.v (.n .i64 0)) := by
  refine jX (N := 60) tabOk mixed (OrL.ok (l := [(91, o_cj2 (.l [jpN 97 j0, jpN 98 j1]))]) ⟨ok_cj2 h0 h1, trivial⟩) ?_
  rw [tr_cr2_1]
  obtain ⟨⟨u00, u01⟩, ⟨u02, u03⟩, ⟨u04, u05⟩, ⟨u06, u07⟩, u08, u09⟩ := q0
  simp only [uY, Bool.true_and, decide_eq_true (show (0 : Int) ≤ 0 ∧ (0 : Int) < 2 by decide), decide_eq_true (show (0 : Int) ≤ 1 ∧ (1 : Int) < 2 by decide), cond_true, cond_false, decide_eq_false (show ¬ m0.link < 0 by omega), decide_eq_false (show ¬ 2 ≤ m0.link by omega), decide_eq_true (show 1 ≤ m0.mass by omega), decide_eq_true (show m0.mass ≤ 65536 by omega), decide_eq_false (show ¬ m0.p.x < (-4194304) by omega), decide_eq_false (show ¬ 4194304 < m0.p.x by omega), decide_eq_false (show ¬ m0.p.y < (-4194304) by omega), decide_eq_false (show ¬ 4194304 < m0.p.y by omega), decide_eq_false (show ¬ m0.p.z < (-4194304) by omega), decide_eq_false (show ¬ 4194304 < m0.p.z by omega)]
set_option maxRecDepth 100000 in
theorem tr_cr2_2 (j0 j1 : J) (m0 m1 : Ms) : runK T (OrL.k [(91, o_cj2 (.l [jpN 97 j0, jpN 98 j1]))]) 60 55 [.a [.l [jpN 97 j0, jpN 98 j1], .l [mp m0, mp m1]]] =
 bif (gEq (.l [jpN 97 j0, jpN 98 j1]) (.l [jpN 97 j0, jpN 98 j1]) && decide (0 ≤ (0 : Int) ∧ (0 : Int) < 2)) then (bif (gEq (.l [jpN 97 j0, jpN 98 j1]) (.l [jpN 97 j0, jpN 98 j1]) && decide (0 ≤ (1 : Int) ∧ (1 : Int) < 2)) then (bif (decide (m0.link < 0)) then some (.v (.n .i64 808), [])
 else bif (decide (2 ≤ m0.link)) then some (.v (.n .i64 808), [])
 else bif (decide (1 ≤ m0.mass)) then (bif (decide (m0.mass ≤ 65536)) then (bif (decide (m0.p.x < (-4194304))) then some (.v (.n .i64 808), [])
 else bif (decide (4194304 < m0.p.x)) then some (.v (.n .i64 808), [])
 else bif (decide (m0.p.y < (-4194304))) then some (.v (.n .i64 808), [])
 else bif (decide (4194304 < m0.p.y)) then some (.v (.n .i64 808), [])
 else bif (decide (m0.p.z < (-4194304))) then some (.v (.n .i64 808), [])
 else bif (decide (4194304 < m0.p.z)) then some (.v (.n .i64 808), [])
 else bif (decide (m1.link < 0)) then some (.v (.n .i64 808), [])
 else bif (decide (2 ≤ m1.link)) then some (.v (.n .i64 808), [])
 else bif (decide (1 ≤ m1.mass)) then (bif (decide (m1.mass ≤ 65536)) then (bif (decide (m1.p.x < (-4194304))) then some (.v (.n .i64 808), [])
 else bif (decide (4194304 < m1.p.x)) then some (.v (.n .i64 808), [])
 else bif (decide (m1.p.y < (-4194304))) then some (.v (.n .i64 808), [])
 else bif (decide (4194304 < m1.p.y)) then some (.v (.n .i64 808), [])
 else bif (decide (m1.p.z < (-4194304))) then some (.v (.n .i64 808), [])
 else bif (decide (4194304 < m1.p.z)) then some (.v (.n .i64 808), [])
 else some (.v (.n .i64 0), []))
 else some (.v (.n .i64 808), []))
 else some (.v (.n .i64 808), []))
 else some (.v (.n .i64 808), []))
 else some (.v (.n .i64 808), []))
 else none)
 else none := by kernel_rfl
theorem snd_cr2_2 {j0 j1 : J} {m0 m1 : Ms} (h0 : JF 0 j0) (h1 : JF 1 j1) (q0 : MB 2 m0) (q1 : MB 2 m1) : SndA1 Tryz.prog 55 [.a [.l [jpN 97 j0, jpN 98 j1], .l [mp m0, mp m1]]] (.v (.n .i64 0)) := by
  refine jX (N := 60) tabOk mixed (OrL.ok (l := [(91, o_cj2 (.l [jpN 97 j0, jpN 98 j1]))]) ⟨ok_cj2 h0 h1, trivial⟩) ?_
  rw [tr_cr2_2]
  obtain ⟨⟨u00, u01⟩, ⟨u02, u03⟩, ⟨u04, u05⟩, ⟨u06, u07⟩, u08, u09⟩ := q0
  obtain ⟨⟨u10, u11⟩, ⟨u12, u13⟩, ⟨u14, u15⟩, ⟨u16, u17⟩, u18, u19⟩ := q1
  simp only [uY, Bool.true_and, decide_eq_true (show (0 : Int) ≤ 0 ∧ (0 : Int) < 2 by decide), decide_eq_true (show (0 : Int) ≤ 1 ∧ (1 : Int) < 2 by decide), cond_true, cond_false, decide_eq_false (show ¬ m0.link < 0 by omega), decide_eq_false (show ¬ 2 ≤ m0.link by omega), decide_eq_true (show 1 ≤ m0.mass by omega), decide_eq_true (show m0.mass ≤ 65536 by omega), decide_eq_false (show ¬ m0.p.x < (-4194304) by omega), decide_eq_false (show ¬ 4194304 < m0.p.x by omega), decide_eq_false (show ¬ m0.p.y < (-4194304) by omega), decide_eq_false (show ¬ 4194304 < m0.p.y by omega), decide_eq_false (show ¬ m0.p.z < (-4194304) by omega), decide_eq_false (show ¬ 4194304 < m0.p.z by omega), decide_eq_false (show ¬ m1.link < 0 by omega), decide_eq_false (show ¬ 2 ≤ m1.link by omega), decide_eq_true (show 1 ≤ m1.mass by omega), decide_eq_true (show m1.mass ≤ 65536 by omega), decide_eq_false (show ¬ m1.p.x < (-4194304) by omega), decide_eq_false (show ¬ 4194304 < m1.p.x by omega), decide_eq_false (show ¬ m1.p.y < (-4194304) by omega), decide_eq_false (show ¬ 4194304 < m1.p.y by omega), decide_eq_false (show ¬ m1.p.z < (-4194304) by omega), decide_eq_false (show ¬ 4194304 < m1.p.z by omega)]
set_option maxRecDepth 100000 in
theorem tr_cj3_0 (j0 j1 j2 : J) : runK T (OrL.k []) 60 91 [.l [jpN 97 j0, jpN 98 j1, jpN 99 j2], .n .i64 0] = cjT F_n 0 j0 := by kernel_rfl
set_option maxRecDepth 100000 in
theorem tr_cj3_1 (j0 j1 j2 : J) : runK T (OrL.k []) 60 91 [.l [jpN 97 j0, jpN 98 j1, jpN 99 j2], .n .i64 1] = cjT F_n 1 j1 := by kernel_rfl
set_option maxRecDepth 100000 in
theorem tr_cj3_2 (j0 j1 j2 : J) : runK T (OrL.k []) 60 91 [.l [jpN 97 j0, jpN 98 j1, jpN 99 j2], .n .i64 2] = cjT F_n 2 j2 := by kernel_rfl
noncomputable def o_cj3 (JL : PV) : List PV → Option (Bool × Ret) := fun ps => match ps with
  | [l, .n .i64 i] => some (gEq l JL && decide (0 ≤ i ∧ i < 3), .v (.n .i64 0))
  | _ => none
theorem ok_cj3 {j0 j1 j2 : J} (h0 : JF 0 j0) (h1 : JF 1 j1) (h2 : JF 2 j2) : OneOk Tryz.prog 91 (o_cj3 (.l [jpN 97 j0, jpN 98 j1, jpN 99 j2])) := by
  intro ps r hh
  unfold o_cj3 at hh
  split at hh
  · simp only [Option.some.injEq, Prod.mk.injEq, Bool.and_eq_true, decide_eq_true_eq] at hh
    obtain ⟨⟨hg, hi⟩, rfl⟩ := hh
    obtain rfl := gEq_eq hg
    rename_i i
    rcases (by omega : i = 0 ∨ i = 1 ∨ i = 2) with rfl | rfl | rfl
    · exact jX (N := 60) tabOk mixed (OrL.ok (l := []) trivial) ((tr_cj3_0 j0 j1 j2).trans (cjT_ok F_n h0))
    · exact jX (N := 60) tabOk mixed (OrL.ok (l := []) trivial) ((tr_cj3_1 j0 j1 j2).trans (cjT_ok F_n h1))
    · exact jX (N := 60) tabOk mixed (OrL.ok (l := []) trivial) ((tr_cj3_2 j0 j1 j2).trans (cjT_ok F_n h2))
  · cases hh
set_option maxRecDepth 100000 in
theorem tr_cr3_0 (j0 j1 j2 : J) : runK T (OrL.k [(91, o_cj3 (.l [jpN 97 j0, jpN 98 j1, jpN 99 j2]))]) 60 55 [.a [.l [jpN 97 j0, jpN 98 j1, jpN 99 j2], .l []]] =
 bif (gEq (.l [jpN 97 j0, jpN 98 j1, jpN 99 j2]) (.l [jpN 97 j0, jpN 98 j1, jpN 99 j2]) && decide (0 ≤ (0 : Int) ∧ (0 : Int) < 3)) then (bif (gEq (.l [jpN 97 j0, jpN 98 j1, jpN 99 j2]) (.l [jpN 97 j0, jpN 98 j1, jpN 99 j2]) && decide (0 ≤ (1 : Int) ∧ (1 : Int) < 3)) then (bif (gEq (.l [jpN 97 j0, jpN 98 j1, jpN 99 j2]) (.l [jpN 97 j0, jpN 98 j1, jpN 99 j2]) && decide (0 ≤ (2 : Int) ∧ (2 : Int) < 3)) then some (.v (.n .i64 0), [])
 else none)
 else none)
 else none := by kernel_rfl
theorem snd_cr3_0 {j0 j1 j2 : J} (h0 : JF 0 j0) (h1 : JF 1 j1) (h2 : JF 2 j2)  : SndA1 Tryz.prog 55 [.a [.l [jpN 97 j0, jpN 98 j1, jpN 99 j2], .l []]] (.v (.n .i64 0)) := by
  refine jX (N := 60) tabOk mixed (OrL.ok (l := [(91, o_cj3 (.l [jpN 97 j0, jpN 98 j1, jpN 99 j2]))]) ⟨ok_cj3 h0 h1 h2, trivial⟩) ?_
  rw [tr_cr3_0]
  simp only [uY, Bool.true_and, decide_eq_true (show (0 : Int) ≤ 0 ∧ (0 : Int) < 3 by decide), decide_eq_true (show (0 : Int) ≤ 1 ∧ (1 : Int) < 3 by decide), decide_eq_true (show (0 : Int) ≤ 2 ∧ (2 : Int) < 3 by decide), cond_true, cond_false]
set_option maxRecDepth 100000 in
theorem tr_cr3_1 (j0 j1 j2 : J) (m0 : Ms) : runK T (OrL.k [(91, o_cj3 (.l [jpN 97 j0, jpN 98 j1, jpN 99 j2]))]) 60 55 [.a [.l [jpN 97 j0, jpN 98 j1, jpN 99 j2], .l [mp m0]]] =
 bif (gEq (.l [jpN 97 j0, jpN 98 j1, jpN 99 j2]) (.l [jpN 97 j0, jpN 98 j1, jpN 99 j2]) && decide (0 ≤ (0 : Int) ∧ (0 : Int) < 3)) then (bif (gEq (.l [jpN 97 j0, jpN 98 j1, jpN 99 j2]) (.l [jpN 97 j0, jpN 98 j1, jpN 99 j2]) && decide (0 ≤ (1 : Int) ∧ (1 : Int) < 3)) then (bif (gEq (.l [jpN 97 j0, jpN 98 j1, jpN 99 j2]) (.l [jpN 97 j0, jpN 98 j1, jpN 99 j2]) && decide (0 ≤ (2 : Int) ∧ (2 : Int) < 3)) then (bif (decide (m0.link < 0)) then some (.v (.n .i64 808), [])
 else bif (decide (3 ≤ m0.link)) then some (.v (.n .i64 808), [])
 else bif (decide (1 ≤ m0.mass)) then (bif (decide (m0.mass ≤ 65536)) then (bif (decide (m0.p.x < (-4194304))) then some (.v (.n .i64 808), [])
 else bif (decide (4194304 < m0.p.x)) then some (.v (.n .i64 808), [])
 else bif (decide (m0.p.y < (-4194304))) then some (.v (.n .i64 808), [])
 else bif (decide (4194304 < m0.p.y)) then some (.v (.n .i64 808), [])
 else bif (decide (m0.p.z < (-4194304))) then some (.v (.n .i64 808), [])
 else bif (decide (4194304 < m0.p.z)) then some (.v (.n .i64 808), [])
 else some (.v (.n .i64 0), []))
 else some (.v (.n .i64 808), []))
 else some (.v (.n .i64 808), []))
 else none)
 else none)
 else none := by kernel_rfl
theorem snd_cr3_1 {j0 j1 j2 : J} {m0 : Ms} (h0 : JF 0 j0) (h1 : JF 1 j1) (h2 : JF 2 j2) (q0 : MB 3 m0) : SndA1 Tryz.prog 55 [.a [.l [jpN 97 j0, jpN 98 j1, jpN 99 j2], .l [mp m0]]] (.v (.n .i64 0)) := by
  refine jX (N := 60) tabOk mixed (OrL.ok (l := [(91, o_cj3 (.l [jpN 97 j0, jpN 98 j1, jpN 99 j2]))]) ⟨ok_cj3 h0 h1 h2, trivial⟩) ?_
  rw [tr_cr3_1]
  obtain ⟨⟨u00, u01⟩, ⟨u02, u03⟩, ⟨u04, u05⟩, ⟨u06, u07⟩, u08, u09⟩ := q0
  simp only [uY, Bool.true_and, decide_eq_true (show (0 : Int) ≤ 0 ∧ (0 : Int) < 3 by decide), decide_eq_true (show (0 : Int) ≤ 1 ∧ (1 : Int) < 3 by decide), decide_eq_true (show (0 : Int) ≤ 2 ∧ (2 : Int) < 3 by decide), cond_true, cond_false, decide_eq_false (show ¬ m0.link < 0 by omega), decide_eq_false (show ¬ 3 ≤ m0.link by omega), decide_eq_true (show 1 ≤ m0.mass by omega), decide_eq_true (show m0.mass ≤ 65536 by omega), decide_eq_false (show ¬ m0.p.x < (-4194304) by omega), decide_eq_false (show ¬ 4194304 < m0.p.x by omega), decide_eq_false (show ¬ m0.p.y < (-4194304) by omega), decide_eq_false (show ¬ 4194304 < m0.p.y by omega), decide_eq_false (show ¬ m0.p.z < (-4194304) by omega), decide_eq_false (show ¬ 4194304 < m0.p.z by omega)]
set_option maxRecDepth 100000 in
theorem tr_cr3_2 (j0 j1 j2 : J) (m0 m1 : Ms) : runK T (OrL.k [(91, o_cj3 (.l [jpN 97 j0, jpN 98 j1, jpN 99 j2]))]) 60 55 [.a [.l [jpN 97 j0, jpN 98 j1, jpN 99 j2], .l [mp m0, mp m1]]] =
 bif (gEq (.l [jpN 97 j0, jpN 98 j1, jpN 99 j2]) (.l [jpN 97 j0, jpN 98 j1, jpN 99 j2]) && decide (0 ≤ (0 : Int) ∧ (0 : Int) < 3)) then (bif (gEq (.l [jpN 97 j0, jpN 98 j1, jpN 99 j2]) (.l [jpN 97 j0, jpN 98 j1, jpN 99 j2]) && decide (0 ≤ (1 : Int) ∧ (1 : Int) < 3)) then (bif (gEq (.l [jpN 97 j0, jpN 98 j1, jpN 99 j2]) (.l [jpN 97 j0, jpN 98 j1, jpN 99 j2]) && decide (0 ≤ (2 : Int) ∧ (2 : Int) < 3)) then (bif (decide (m0.link < 0)) then some (.v (.n .i64 808), [])
 else bif (decide (3 ≤ m0.link)) then some (.v (.n .i64 808), [])
 else bif (decide (1 ≤ m0.mass)) then (bif (decide (m0.mass ≤ 65536)) then (bif (decide (m0.p.x < (-4194304))) then some (.v (.n .i64 808), [])
 else bif (decide (4194304 < m0.p.x)) then some (.v (.n .i64 808), [])
 else bif (decide (m0.p.y < (-4194304))) then some (.v (.n .i64 808), [])
 else bif (decide (4194304 < m0.p.y)) then some (.v (.n .i64 808), [])
 else bif (decide (m0.p.z < (-4194304))) then some (.v (.n .i64 808), [])
 else bif (decide (4194304 < m0.p.z)) then some (.v (.n .i64 808), [])
 else bif (decide (m1.link < 0)) then some (.v (.n .i64 808), [])
 else bif (decide (3 ≤ m1.link)) then some (.v (.n .i64 808), [])
 else bif (decide (1 ≤ m1.mass)) then (bif (decide (m1.mass ≤ 65536)) then (bif (decide (m1.p.x < (-4194304))) then some (.v (.n .i64 808), [])
 else bif (decide (4194304 < m1.p.x)) then some (.v (.n .i64 808), [])
 else bif (decide (m1.p.y < (-4194304))) then some (.v (.n .i64 808), [])
 else bif (decide (4194304 < m1.p.y)) then some (.v (.n .i64 808), [])
 else bif (decide (m1.p.z < (-4194304))) then some (.v (.n .i64 808), [])
 else bif (decide (4194304 < m1.p.z)) then some (.v (.n .i64 808), [])
 else some (.v (.n .i64 0), []))
 else some (.v (.n .i64 808), []))
 else some (.v (.n .i64 808), []))
 else some (.v (.n .i64 808), []))
 else some (.v (.n .i64 808), []))
 else none)
 else none)
 else none := by kernel_rfl
theorem snd_cr3_2 {j0 j1 j2 : J} {m0 m1 : Ms} (h0 : JF 0 j0) (h1 : JF 1 j1) (h2 : JF 2 j2) (q0 : MB 3 m0) (q1 : MB 3 m1) : SndA1 Tryz.prog 55 [.a [.l [jpN 97 j0, jpN 98 j1, jpN 99 j2], .l [mp m0, mp m1]]] (.v (.n .i64 0)) := by
  refine jX (N := 60) tabOk mixed (OrL.ok (l := [(91, o_cj3 (.l [jpN 97 j0, jpN 98 j1, jpN 99 j2]))]) ⟨ok_cj3 h0 h1 h2, trivial⟩) ?_
  rw [tr_cr3_2]
  obtain ⟨⟨u00, u01⟩, ⟨u02, u03⟩, ⟨u04, u05⟩, ⟨u06, u07⟩, u08, u09⟩ := q0
  obtain ⟨⟨u10, u11⟩, ⟨u12, u13⟩, ⟨u14, u15⟩, ⟨u16, u17⟩, u18, u19⟩ := q1
  simp only [uY, Bool.true_and, decide_eq_true (show (0 : Int) ≤ 0 ∧ (0 : Int) < 3 by decide), decide_eq_true (show (0 : Int) ≤ 1 ∧ (1 : Int) < 3 by decide), decide_eq_true (show (0 : Int) ≤ 2 ∧ (2 : Int) < 3 by decide), cond_true, cond_false, decide_eq_false (show ¬ m0.link < 0 by omega), decide_eq_false (show ¬ 3 ≤ m0.link by omega), decide_eq_true (show 1 ≤ m0.mass by omega), decide_eq_true (show m0.mass ≤ 65536 by omega), decide_eq_false (show ¬ m0.p.x < (-4194304) by omega), decide_eq_false (show ¬ 4194304 < m0.p.x by omega), decide_eq_false (show ¬ m0.p.y < (-4194304) by omega), decide_eq_false (show ¬ 4194304 < m0.p.y by omega), decide_eq_false (show ¬ m0.p.z < (-4194304) by omega), decide_eq_false (show ¬ 4194304 < m0.p.z by omega), decide_eq_false (show ¬ m1.link < 0 by omega), decide_eq_false (show ¬ 3 ≤ m1.link by omega), decide_eq_true (show 1 ≤ m1.mass by omega), decide_eq_true (show m1.mass ≤ 65536 by omega), decide_eq_false (show ¬ m1.p.x < (-4194304) by omega), decide_eq_false (show ¬ 4194304 < m1.p.x by omega), decide_eq_false (show ¬ m1.p.y < (-4194304) by omega), decide_eq_false (show ¬ 4194304 < m1.p.y by omega), decide_eq_false (show ¬ m1.p.z < (-4194304) by omega), decide_eq_false (show ¬ 4194304 < m1.p.z by omega)]
theorem snd_rchk (l : List Int) : SndA1 Tryz.prog 55 [robP l] (.v (.n .i64 0)) := by
  have hn := nJ_b l 0
  have hm := nM_b l 0
  have hjl := jsOf_len l 0 (nJ l 0)
  have hml := msOf_len l 0 (nM l 0)
  have hJ := fun k j h => jf_of (made_JOK l 0 (nJ l 0) hn.2.1 k j h)
  have hN : ∀ (k : Nat) (j : J), (jsOf l 0 (nJ l 0)).1[k]? = some j → j.name = letterB k := fun k j h => by
    obtain ⟨p, rfl⟩ := jsOf_get l 0 _ k j h
    exact (jointOf_same l p k).1
  have hM : ∀ m ∈ msOf l 0 (nM l 0), MB (nJ l 0) m := fun m h => msOf_get l 0 _ m h
  unfold robP
  rcases (by omega : nJ l 0 = 1 ∨ nJ l 0 = 2 ∨ nJ l 0 = 3) with h | h | h
  · obtain ⟨j0, hj⟩ := l1 (hjl.trans h)
    rw [hj] at hJ hN ⊢
    rw [h] at hM
    have f0 := hJ 0 j0 rfl
    have g0 := jpN_eq ((hN 0 j0 rfl).trans letter0)
    have e : [j0].map jp = [jpN 97 j0] := by simp only [List.map_cons, List.map_nil, g0]
    rw [e]
    rcases (by omega : nM l 0 = 0 ∨ nM l 0 = 1 ∨ nM l 0 = 2) with q | q | q
    · rw [List.length_eq_zero_iff.1 (hml.trans q)]
      exact snd_cr1_0 f0
    · obtain ⟨m0, hq⟩ := l1 (hml.trans q)
      rw [hq] at hM ⊢
      exact snd_cr1_1 f0 (hM m0 (by simp))
    · obtain ⟨m0, m1, hq⟩ := l2 (hml.trans q)
      rw [hq] at hM ⊢
      exact snd_cr1_2 f0 (hM m0 (by simp)) (hM m1 (by simp))
  · obtain ⟨j0, j1, hj⟩ := l2 (hjl.trans h)
    rw [hj] at hJ hN ⊢
    rw [h] at hM
    have f0 := hJ 0 j0 rfl
    have f1 := hJ 1 j1 rfl
    have g0 := jpN_eq ((hN 0 j0 rfl).trans letter0)
    have g1 := jpN_eq ((hN 1 j1 rfl).trans letter1)
    have e : [j0, j1].map jp = [jpN 97 j0, jpN 98 j1] := by simp only [List.map_cons, List.map_nil, g0, g1]
    rw [e]
    rcases (by omega : nM l 0 = 0 ∨ nM l 0 = 1 ∨ nM l 0 = 2) with q | q | q
    · rw [List.length_eq_zero_iff.1 (hml.trans q)]
      exact snd_cr2_0 f0 f1
    · obtain ⟨m0, hq⟩ := l1 (hml.trans q)
      rw [hq] at hM ⊢
      exact snd_cr2_1 f0 f1 (hM m0 (by simp))
    · obtain ⟨m0, m1, hq⟩ := l2 (hml.trans q)
      rw [hq] at hM ⊢
      exact snd_cr2_2 f0 f1 (hM m0 (by simp)) (hM m1 (by simp))
  · obtain ⟨j0, j1, j2, hj⟩ := l3 (hjl.trans h)
    rw [hj] at hJ hN ⊢
    rw [h] at hM
    have f0 := hJ 0 j0 rfl
    have f1 := hJ 1 j1 rfl
    have f2 := hJ 2 j2 rfl
    have g0 := jpN_eq ((hN 0 j0 rfl).trans letter0)
    have g1 := jpN_eq ((hN 1 j1 rfl).trans letter1)
    have g2 := jpN_eq ((hN 2 j2 rfl).trans letter2)
    have e : [j0, j1, j2].map jp = [jpN 97 j0, jpN 98 j1, jpN 99 j2] := by simp only [List.map_cons, List.map_nil, g0, g1, g2]
    rw [e]
    rcases (by omega : nM l 0 = 0 ∨ nM l 0 = 1 ∨ nM l 0 = 2) with q | q | q
    · rw [List.length_eq_zero_iff.1 (hml.trans q)]
      exact snd_cr3_0 f0 f1 f2
    · obtain ⟨m0, hq⟩ := l1 (hml.trans q)
      rw [hq] at hM ⊢
      exact snd_cr3_1 f0 f1 f2 (hM m0 (by simp))
    · obtain ⟨m0, m1, hq⟩ := l2 (hml.trans q)
      rw [hq] at hM ⊢
      exact snd_cr3_2 f0 f1 f2 (hM m0 (by simp)) (hM m1 (by simp))
end Go.Proofs.YtnlnbnjnapofmaaGreat.Pc
namespace Go.Proofs.YtnlnbnjnapofmaaGreat.Pd
open Go.Rx Rt Go.Sx Go.RowKit
open Ov Ow Pc
noncomputable def g1 (l : List PV) : Bool := gEq (.t l) (.t l)
theorem g1_t (l : List PV) : g1 l = true := uY _
noncomputable def o_cr (as_ : List PV) (r : Ret) : List PV → Option (Bool × Ret) := fun ps => some (gEq (.t ps) (.t as_), r)
theorem ok_cr {f : Nat} {as_ : List PV} {r : Ret} (h : SndA1 Tryz.prog f as_ r) : OneOk Tryz.prog f (o_cr as_ r) := by
  intro ps q hh
  unfold o_cr at hh
  simp only [Option.some.injEq, Prod.mk.injEq] at hh
  obtain ⟨hg, rfl⟩ := hh
  have := gEq_eq hg
  simp only [PV.t.injEq] at this
  rw [this]
  exact h
theorem snd_ow_v {f e sz : Nat} {ps : List PV} {rows : List (List PV)} (h : SndA1 Tryz.prog f ps (.ow e sz rows)) : SndA1 Tryz.prog f ps (.v (.l rows)) := by
  refine ⟨h.1, fun w F vals hF hal => (h.2 w F vals hF hal).mono ?_⟩
  rintro en w' ⟨v, F', he, hg, f1, f2, hr⟩
  obtain ⟨F2, f3, f4, hx⟩ := hr.pv (x := .l rows) rfl
  refine ⟨v, F2, he, hg, fun k hk => f3 k (f1 k hk), fun k hk => ?_, hx⟩
  rcases f4 k hk with h | h
  · exact f2 k h
  · exact .inr h
def Bn (x : Int) : Prop := -1000000 ≤ x ∧ x ≤ 1000000
def dst : List J → List Int → List Int → Int
  | j :: js, x :: xs, y :: ys => j.weight * max (x - y) (y - x) + dst js xs ys
  | _, _, _ => 0
theorem dst_b {w x y : Int} (hw : 1 ≤ w ∧ w ≤ 1024) (hx : Bn x) (hy : Bn y) : 0 ≤ w * max (x - y) (y - x) ∧ w * max (x - y) (y - x) ≤ 2048000000 := by
  unfold Bn at hx hy
  have h0 : 0 ≤ max (x - y) (y - x) := by omega
  have h1 : max (x - y) (y - x) ≤ 2000000 := by omega
  generalize max (x - y) (y - x) = m at *
  have a := Int.mul_nonneg (show 0 ≤ w by omega) h0
  have b := Int.mul_le_mul hw.2 h1 h0 (by omega)
  omega
theorem dst_step {a w x y : Int} (ha : 0 ≤ a ∧ a ≤ 100000000000) (hw : 1 ≤ w ∧ w ≤ 1024) (hx : Bn x) (hy : Bn y) : IntKind.i64.wrap (a + IntKind.i64.wrap (w * max (IntKind.i64.wrap (x - y)) (IntKind.i64.wrap (y - x)))) = a + w * max (x - y) (y - x) := by
  have hb := dst_b hw hx hy
  unfold Bn at hx hy
  rw [zG (x := x - y) (by omega), zG (x := y - x) (by omega), zG (x := w * max (x - y) (y - x)) (by omega), zG (by omega)]
theorem dst_comm {w x y : Int} : w * max (y - x) (x - y) = w * max (x - y) (y - x) := by rw [show max (y - x) (x - y) = max (x - y) (y - x) by omega]
def JW (j : J) : Prop := 1 ≤ j.weight ∧ j.weight ≤ 1024
def cin (j : J) (x : Int) : Prop := j.lo ≤ x ∧ x ≤ j.hi
set_option maxRecDepth 100000 in
theorem tr_dist1 (j0 : J) (mr : List (List PV)) (p0 q0 : Int) : runK T (OrL.k [(67, o_chk (rob1 j0 mr))]) 60 63 [(rob1 j0 mr), (intsP [p0]), (intsP [q0])] =
 bif (decide (p0 < (-2147483648))) then some (.v (.n .i64 0), [])
 else bif (decide (2147483648 < p0)) then some (.v (.n .i64 0), [])
 else bif (decide (q0 < (-2147483648))) then some (.v (.n .i64 0), [])
 else bif (decide (2147483648 < q0)) then some (.v (.n .i64 0), [])
 else bif (gEq (rob1 j0 mr) (rob1 j0 mr)) then some (.v (.n .i64 (IntKind.i64.wrap (0 + (IntKind.i64.wrap (j0.weight * (max (IntKind.i64.wrap (q0 - p0)) (IntKind.i64.wrap (p0 - q0)))))))), [])
 else none := by kernel_rfl
theorem snd_dist1 {j0 : J} {mr : List (List PV)} {p0 q0 : Int} (w0 : JW j0) (b0 : Bn p0) (c0 : Bn q0) (hc : SndA1 Tryz.prog 67 [(rob1 j0 mr)] (.v (.n .i64 0))) : SndA1 Tryz.prog 63 [(rob1 j0 mr), (intsP [p0]), (intsP [q0])] (.v (.n .i64 (dst [j0] [p0] [q0]))) := by
  refine jX (N := 60) tabOk mixed (OrL.ok (l := [(67, o_chk (rob1 j0 mr))]) ⟨ok_chk hc, trivial⟩) ?_
  rw [tr_dist1, decide_eq_false (show ¬ p0 < (-2147483648) by unfold Bn at *; omega), cond_false, decide_eq_false (show ¬ 2147483648 < p0 by unfold Bn at *; omega), cond_false, decide_eq_false (show ¬ q0 < (-2147483648) by unfold Bn at *; omega), cond_false, decide_eq_false (show ¬ 2147483648 < q0 by unfold Bn at *; omega), cond_false, uY, cond_true]
  have d0 := dst_b (x := q0) (y := p0) w0 c0 b0
  rw [dst_step (by omega) w0 c0 b0]
  rw [dst_comm (w := j0.weight) (x := p0) (y := q0)]
  simp only [dst, Int.zero_add, Int.add_zero, Int.add_assoc]
theorem ok_rchk1 {j0 : J} {mr : List (List PV)} (h : SndA1 Tryz.prog 55 [(rob1 j0 mr)] (.v (.n .i64 0))) : OneOk Tryz.prog 55 (o_chk (rob1 j0 mr)) := by
  intro ps r hh
  unfold o_chk at hh
  split at hh
  · simp only [Option.some.injEq, Prod.mk.injEq] at hh
    obtain ⟨hg, rfl⟩ := hh
    obtain rfl := gEq_eq hg
    exact h
  · cases hh
set_option maxRecDepth 100000 in
theorem tr_rdist1 (j0 : J) (mr : List (List PV)) (p0 q0 : Int) : runK T (OrL.k [(55, o_chk (rob1 j0 mr))]) 60 34 [(rob1 j0 mr), (intsP [p0]), (intsP [q0])] =
 bif (gEq (rob1 j0 mr) (rob1 j0 mr)) then (bif (decide (p0 < (-2147483648))) then some (.v (.n .i64 0), [])
 else bif (decide (2147483648 < p0)) then some (.v (.n .i64 0), [])
 else bif (decide (q0 < (-2147483648))) then some (.v (.n .i64 0), [])
 else bif (decide (2147483648 < q0)) then some (.v (.n .i64 0), [])
 else some (.v (.n .i64 (IntKind.i64.wrap (0 + (IntKind.i64.wrap (j0.weight * (max (IntKind.i64.wrap (p0 - q0)) (IntKind.i64.wrap (q0 - p0)))))))), []))
 else none := by kernel_rfl
theorem snd_rdist1 {j0 : J} {mr : List (List PV)} {p0 q0 : Int} (w0 : JW j0) (b0 : Bn p0) (c0 : Bn q0) (hc : SndA1 Tryz.prog 55 [(rob1 j0 mr)] (.v (.n .i64 0))) : SndA1 Tryz.prog 34 [(rob1 j0 mr), (intsP [p0]), (intsP [q0])] (.v (.n .i64 (dst [j0] [p0] [q0]))) := by
  refine jX (N := 60) tabOk mixed (OrL.ok (l := [(55, o_chk (rob1 j0 mr))]) ⟨ok_rchk1 hc, trivial⟩) ?_
  rw [tr_rdist1, uY, cond_true, decide_eq_false (show ¬ p0 < (-2147483648) by unfold Bn at *; omega), cond_false, decide_eq_false (show ¬ 2147483648 < p0 by unfold Bn at *; omega), cond_false, decide_eq_false (show ¬ q0 < (-2147483648) by unfold Bn at *; omega), cond_false, decide_eq_false (show ¬ 2147483648 < q0 by unfold Bn at *; omega), cond_false]
  have d0 := dst_b (x := p0) (y := q0) w0 b0 c0
  rw [dst_step (by omega) w0 b0 c0]
  simp only [dst, Int.zero_add, Int.add_zero, Int.add_assoc]
theorem snd_ins_1 {j0 : J} {mr : List (List PV)} {c0 : Int} (h0 : cin j0 c0) (hc : SndA1 Tryz.prog 67 [(rob1 j0 mr)] (.v (.n .i64 0))) : SndA1 Tryz.prog 47 [(rob1 j0 mr), (intsP [c0])] (.v (.b true)) := by
  refine jX (N := 60) tabOk mixed (OrL.ok (l := [(67, o_chk (rob1 j0 mr))]) ⟨ok_chk hc, trivial⟩) ?_
  refine (by kernel_rfl : _ = bif (gEq (rob1 j0 mr) (rob1 j0 mr)) then (bif (decide (j0.lo ≤ c0)) then (bif (decide (c0 ≤ j0.hi)) then some (.v (.b true), [])
 else some (.v (.b false), []))
 else some (.v (.b false), []))
 else none).trans ?_
  rw [uY, cond_true, decide_eq_true h0.1, cond_true, decide_eq_true h0.2, cond_true]
theorem snd_bx_1 {c0 : Int} (b0 : Bn c0) : SndA1 Tryz.prog 49 [(intsP [c0])] (.v (.l [Rx.ivC ⟨c0, c0⟩])) := by
  refine jX (N := 60) tabOk mixed (OrL.ok (l := Od.L6) Od.L6_ok) ?_
  refine (by kernel_rfl : _ = bif (decide (c0 < (-2147483648))) then some (.v (.l []), [])
 else bif (decide (2147483648 < c0)) then some (.v (.l []), [])
 else some (.v (.l [[.n .i64 (Iv.of c0).lo, .n .i64 (Iv.of c0).hi]]), [])).trans ?_
  rw [decide_eq_false (show ¬ c0 < -2147483648 by unfold Bn at *; omega), cond_false, decide_eq_false (show ¬ 2147483648 < c0 by unfold Bn at *; omega), cond_false]
  have e : ∀ x, Bn x → Iv.of x = ⟨x, x⟩ := fun x hx => by unfold Bn at hx; unfold Iv.of clampI; rw [show min (max x (-2147483648)) 2147483648 = x by omega]
  rw [e c0 b0]
  rfl
theorem snd_ck_1 {j0 : J} {mr : List (List PV)} (hc : SndA1 Tryz.prog 67 [(rob1 j0 mr)] (.v (.n .i64 0))) : SndA1 Tryz.prog 40 [(rob1 j0 mr), .l []] (.v (.b true)) := by
  refine jX (N := 60) tabOk mixed (OrL.ok (l := [(67, o_chk (rob1 j0 mr))]) ⟨ok_chk hc, trivial⟩) ?_
  refine (by kernel_rfl : _ = bif (gEq (rob1 j0 mr) (rob1 j0 mr)) then some (.v (.b true), [])
 else none).trans ?_
  rw [uY, cond_true]
set_option maxRecDepth 100000 in
theorem tr_tw1 (c0 b0 s d : Int) : runK T (OrL.k []) 60 64 [(intsP [c0]), (intsP [b0]), .n .i64 s, .n .i64 d] =
 bif (decide (d ≤ s)) then some (.v (.l [[.n .i64 b0]]), [])
 else bif (decide (d = 0)) then none
 else some (.ow 2 1 [[.n .i64 (IntKind.i64.wrap (c0 + (IntKind.i64.wrap ((IntKind.i64.wrap ((IntKind.i64.wrap (b0 - c0)) * s)).tdiv d))))]], []) := by kernel_rfl
def tw (s d x y : Int) : Int := x + ((y - x) * s).tdiv d
theorem tdiv_abs {a d : Int} (hd : 1 ≤ d) : (0 ≤ a → 0 ≤ a.tdiv d ∧ a.tdiv d ≤ a) ∧ (a ≤ 0 → a ≤ a.tdiv d ∧ a.tdiv d ≤ 0) := by
  constructor
  · intro h
    rw [Int.tdiv_eq_ediv_of_nonneg h]
    exact ⟨Int.ediv_nonneg h (by omega), Int.ediv_le_self _ h⟩
  · intro h
    have e : a.tdiv d = -((-a).tdiv d) := by rw [Int.neg_tdiv, Int.neg_neg]
    have h' : 0 ≤ -a := by omega
    rw [e, Int.tdiv_eq_ediv_of_nonneg h']
    have a1 := Int.ediv_nonneg h' (show 0 ≤ d by omega)
    have a2 := Int.ediv_le_self d h'
    omega
theorem tw_wr {s d x y : Int} (hx : Bn x) (hy : Bn y) (hs : 1 ≤ s ∧ s ≤ 1073741824) (hd : 1 ≤ d) : IntKind.i64.wrap (x + IntKind.i64.wrap ((IntKind.i64.wrap (IntKind.i64.wrap (y - x) * s)).tdiv d)) = tw s d x y := by
  unfold Bn at hx hy
  have h1 : -2147483648000000 ≤ (y - x) * s ∧ (y - x) * s ≤ 2147483648000000 := by
    have : ((y - x) * s).natAbs ≤ 2000000 * 1073741824 := by
      rw [Int.natAbs_mul]
      exact Nat.mul_le_mul (by omega) (by omega)
    omega
  have h2 := tdiv_abs (a := (y - x) * s) hd
  rw [zG (x := y - x) (by omega), zG (x := (y - x) * s) (by omega), zG (x := ((y - x) * s).tdiv d) (by omega), zG (by omega)]
  rfl
def nxt (s d : Int) (c b : List Int) : List Int := if d ≤ s then b else List.zipWith (tw s d) c b
theorem snd_tw1 {c0 b0 s d : Int} (p0 : Bn c0) (q0 : Bn b0) (hs : 1 ≤ s ∧ s ≤ 1073741824) : SndA1 Tryz.prog 64 [(intsP [c0]), (intsP [b0]), .n .i64 s, .n .i64 d] (.v (intsP (nxt s d [c0] [b0]))) := by
  have hq := tr_tw1 c0 b0 s d
  unfold nxt
  by_cases h : d ≤ s
  · rw [if_pos h]
    rw [decide_eq_true h, cond_true] at hq
    exact jX (N := 60) tabOk mixed (OrL.ok (l := []) trivial) hq
  · rw [if_neg h]
    rw [decide_eq_false h, cond_false, decide_eq_false (show ¬ d = 0 by omega)] at hq
    simp only [cond_false] at hq
    rw [tw_wr p0 q0 hs (show 1 ≤ d by omega)] at hq
    exact snd_ow_v (jX (N := 60) tabOk mixed (OrL.ok (l := []) trivial) hq)
theorem snd_pj1 {R1 R2 : List (List PV)} {q0 : Int} (h1 : SndA1 Tryz.prog 40 [.a [.l R1, .l R2], .l []] (.v (.b true))) (h2 : SndA1 Tryz.prog 47 [.a [.l R1, .l R2], (intsP [q0])] (.v (.b true))) : SndA1 Tryz.prog 22 [.a [.l R1, .l R2], .l [], (intsP [q0]), .n .i64 0] (.v (.t [(intsP [q0]), .n .i64 0, .b true])) := by
  refine jX (N := 60) tabOk mixed (OrL.ok (l := [(40, o_cr [.a [.l R1, .l R2], .l []] (.v (.b true))), (47, o_cr [.a [.l R1, .l R2], (intsP [q0])] (.v (.b true)))]) ⟨ok_cr h1, ok_cr h2, trivial⟩) ?_
  refine (by kernel_rfl : _ = bif (g1 [.a [.l R1, .l R2], .l []]) then (bif (g1 [.a [.l R1, .l R2], (intsP [q0])]) then some (.v (.t [.l [[.n .i64 q0]], .n .i64 0, .b true]), [])
 else none)
 else none).trans ?_
  simp only [g1_t, cond_true]
  rfl
set_option maxRecDepth 100000 in
theorem tr_dist2 (j0 j1 : J) (mr : List (List PV)) (p0 p1 q0 q1 : Int) : runK T (OrL.k [(67, o_chk (rob2 j0 j1 mr))]) 60 63 [(rob2 j0 j1 mr), (intsP [p0, p1]), (intsP [q0, q1])] =
 bif (decide (p0 < (-2147483648))) then some (.v (.n .i64 0), [])
 else bif (decide (2147483648 < p0)) then some (.v (.n .i64 0), [])
 else bif (decide (p1 < (-2147483648))) then some (.v (.n .i64 0), [])
 else bif (decide (2147483648 < p1)) then some (.v (.n .i64 0), [])
 else bif (decide (q0 < (-2147483648))) then some (.v (.n .i64 0), [])
 else bif (decide (2147483648 < q0)) then some (.v (.n .i64 0), [])
 else bif (decide (q1 < (-2147483648))) then some (.v (.n .i64 0), [])
 else bif (decide (2147483648 < q1)) then some (.v (.n .i64 0), [])
 else bif (gEq (rob2 j0 j1 mr) (rob2 j0 j1 mr)) then some (.v (.n .i64 (IntKind.i64.wrap ((IntKind.i64.wrap (0 + (IntKind.i64.wrap (j0.weight * (max (IntKind.i64.wrap (q0 - p0)) (IntKind.i64.wrap (p0 - q0))))))) + (IntKind.i64.wrap (j1.weight * (max (IntKind.i64.wrap (q1 - p1)) (IntKind.i64.wrap (p1 - q1)))))))), [])
 else none := by kernel_rfl
theorem snd_dist2 {j0 j1 : J} {mr : List (List PV)} {p0 p1 q0 q1 : Int} (w0 : JW j0) (w1 : JW j1) (b0 : Bn p0) (b1 : Bn p1) (c0 : Bn q0) (c1 : Bn q1) (hc : SndA1 Tryz.prog 67 [(rob2 j0 j1 mr)] (.v (.n .i64 0))) : SndA1 Tryz.prog 63 [(rob2 j0 j1 mr), (intsP [p0, p1]), (intsP [q0, q1])] (.v (.n .i64 (dst [j0, j1] [p0, p1] [q0, q1]))) := by
  refine jX (N := 60) tabOk mixed (OrL.ok (l := [(67, o_chk (rob2 j0 j1 mr))]) ⟨ok_chk hc, trivial⟩) ?_
  rw [tr_dist2, decide_eq_false (show ¬ p0 < (-2147483648) by unfold Bn at *; omega), cond_false, decide_eq_false (show ¬ 2147483648 < p0 by unfold Bn at *; omega), cond_false, decide_eq_false (show ¬ p1 < (-2147483648) by unfold Bn at *; omega), cond_false, decide_eq_false (show ¬ 2147483648 < p1 by unfold Bn at *; omega), cond_false, decide_eq_false (show ¬ q0 < (-2147483648) by unfold Bn at *; omega), cond_false, decide_eq_false (show ¬ 2147483648 < q0 by unfold Bn at *; omega), cond_false, decide_eq_false (show ¬ q1 < (-2147483648) by unfold Bn at *; omega), cond_false, decide_eq_false (show ¬ 2147483648 < q1 by unfold Bn at *; omega), cond_false, uY, cond_true]
  have d0 := dst_b (x := q0) (y := p0) w0 c0 b0
  have d1 := dst_b (x := q1) (y := p1) w1 c1 b1
  rw [dst_step (by omega) w0 c0 b0, dst_step (by omega) w1 c1 b1]
  rw [dst_comm (w := j0.weight) (x := p0) (y := q0), dst_comm (w := j1.weight) (x := p1) (y := q1)]
  simp only [dst, Int.zero_add, Int.add_zero, Int.add_assoc]
theorem ok_rchk2 {j0 j1 : J} {mr : List (List PV)} (h : SndA1 Tryz.prog 55 [(rob2 j0 j1 mr)] (.v (.n .i64 0))) : OneOk Tryz.prog 55 (o_chk (rob2 j0 j1 mr)) := by
  intro ps r hh
  unfold o_chk at hh
  split at hh
  · simp only [Option.some.injEq, Prod.mk.injEq] at hh
    obtain ⟨hg, rfl⟩ := hh
    obtain rfl := gEq_eq hg
    exact h
  · cases hh
set_option maxRecDepth 100000 in
theorem tr_rdist2 (j0 j1 : J) (mr : List (List PV)) (p0 p1 q0 q1 : Int) : runK T (OrL.k [(55, o_chk (rob2 j0 j1 mr))]) 60 34 [(rob2 j0 j1 mr), (intsP [p0, p1]), (intsP [q0, q1])] =
 bif (gEq (rob2 j0 j1 mr) (rob2 j0 j1 mr)) then (bif (decide (p0 < (-2147483648))) then some (.v (.n .i64 0), [])
 else bif (decide (2147483648 < p0)) then some (.v (.n .i64 0), [])
 else bif (decide (p1 < (-2147483648))) then some (.v (.n .i64 0), [])
 else bif (decide (2147483648 < p1)) then some (.v (.n .i64 0), [])
 else bif (decide (q0 < (-2147483648))) then some (.v (.n .i64 0), [])
 else bif (decide (2147483648 < q0)) then some (.v (.n .i64 0), [])
 else bif (decide (q1 < (-2147483648))) then some (.v (.n .i64 0), [])
 else bif (decide (2147483648 < q1)) then some (.v (.n .i64 0), [])
 else some (.v (.n .i64 (IntKind.i64.wrap ((IntKind.i64.wrap (0 + (IntKind.i64.wrap (j0.weight * (max (IntKind.i64.wrap (p0 - q0)) (IntKind.i64.wrap (q0 - p0))))))) + (IntKind.i64.wrap (j1.weight * (max (IntKind.i64.wrap (p1 - q1)) (IntKind.i64.wrap (q1 - p1)))))))), []))
 else none := by kernel_rfl
theorem snd_rdist2 {j0 j1 : J} {mr : List (List PV)} {p0 p1 q0 q1 : Int} (w0 : JW j0) (w1 : JW j1) (b0 : Bn p0) (b1 : Bn p1) (c0 : Bn q0) (c1 : Bn q1) (hc : SndA1 Tryz.prog 55 [(rob2 j0 j1 mr)] (.v (.n .i64 0))) : SndA1 Tryz.prog 34 [(rob2 j0 j1 mr), (intsP [p0, p1]), (intsP [q0, q1])] (.v (.n .i64 (dst [j0, j1] [p0, p1] [q0, q1]))) := by
  refine jX (N := 60) tabOk mixed (OrL.ok (l := [(55, o_chk (rob2 j0 j1 mr))]) ⟨ok_rchk2 hc, trivial⟩) ?_
  rw [tr_rdist2, uY, cond_true, decide_eq_false (show ¬ p0 < (-2147483648) by unfold Bn at *; omega), cond_false, decide_eq_false (show ¬ 2147483648 < p0 by unfold Bn at *; omega), cond_false, decide_eq_false (show ¬ p1 < (-2147483648) by unfold Bn at *; omega), cond_false, decide_eq_false (show ¬ 2147483648 < p1 by unfold Bn at *; omega), cond_false, decide_eq_false (show ¬ q0 < (-2147483648) by unfold Bn at *; omega), cond_false, decide_eq_false (show ¬ 2147483648 < q0 by unfold Bn at *; omega), cond_false, decide_eq_false (show ¬ q1 < (-2147483648) by unfold Bn at *; omega), cond_false, decide_eq_false (show ¬ 2147483648 < q1 by unfold Bn at *; omega), cond_false]
  have d0 := dst_b (x := p0) (y := q0) w0 b0 c0
  have d1 := dst_b (x := p1) (y := q1) w1 b1 c1
  rw [dst_step (by omega) w0 b0 c0, dst_step (by omega) w1 b1 c1]
  simp only [dst, Int.zero_add, Int.add_zero, Int.add_assoc]
theorem snd_ins_2 {j0 j1 : J} {mr : List (List PV)} {c0 c1 : Int} (h0 : cin j0 c0) (h1 : cin j1 c1) (hc : SndA1 Tryz.prog 67 [(rob2 j0 j1 mr)] (.v (.n .i64 0))) : SndA1 Tryz.prog 47 [(rob2 j0 j1 mr), (intsP [c0, c1])] (.v (.b true)) := by
  refine jX (N := 60) tabOk mixed (OrL.ok (l := [(67, o_chk (rob2 j0 j1 mr))]) ⟨ok_chk hc, trivial⟩) ?_
  refine (by kernel_rfl : _ = bif (gEq (rob2 j0 j1 mr) (rob2 j0 j1 mr)) then (bif (decide (j0.lo ≤ c0)) then (bif (decide (c0 ≤ j0.hi)) then (bif (decide (j1.lo ≤ c1)) then (bif (decide (c1 ≤ j1.hi)) then some (.v (.b true), [])
 else some (.v (.b false), []))
 else some (.v (.b false), []))
 else some (.v (.b false), []))
 else some (.v (.b false), []))
 else none).trans ?_
  rw [uY, cond_true, decide_eq_true h0.1, cond_true, decide_eq_true h0.2, cond_true, decide_eq_true h1.1, cond_true, decide_eq_true h1.2, cond_true]
theorem snd_bx_2 {c0 c1 : Int} (b0 : Bn c0) (b1 : Bn c1) : SndA1 Tryz.prog 49 [(intsP [c0, c1])] (.v (.l [Rx.ivC ⟨c0, c0⟩, Rx.ivC ⟨c1, c1⟩])) := by
  refine jX (N := 60) tabOk mixed (OrL.ok (l := Od.L6) Od.L6_ok) ?_
  refine (by kernel_rfl : _ = bif (decide (c0 < (-2147483648))) then some (.v (.l []), [])
 else bif (decide (2147483648 < c0)) then some (.v (.l []), [])
 else bif (decide (c1 < (-2147483648))) then some (.v (.l []), [])
 else bif (decide (2147483648 < c1)) then some (.v (.l []), [])
 else some (.v (.l [[.n .i64 (Iv.of c0).lo, .n .i64 (Iv.of c0).hi], [.n .i64 (Iv.of c1).lo, .n .i64 (Iv.of c1).hi]]), [])).trans ?_
  rw [decide_eq_false (show ¬ c0 < -2147483648 by unfold Bn at *; omega), cond_false, decide_eq_false (show ¬ 2147483648 < c0 by unfold Bn at *; omega), cond_false, decide_eq_false (show ¬ c1 < -2147483648 by unfold Bn at *; omega), cond_false, decide_eq_false (show ¬ 2147483648 < c1 by unfold Bn at *; omega), cond_false]
  have e : ∀ x, Bn x → Iv.of x = ⟨x, x⟩ := fun x hx => by unfold Bn at hx; unfold Iv.of clampI; rw [show min (max x (-2147483648)) 2147483648 = x by omega]
  rw [e c0 b0, e c1 b1]
  rfl
theorem snd_ck_2 {j0 j1 : J} {mr : List (List PV)} (hc : SndA1 Tryz.prog 67 [(rob2 j0 j1 mr)] (.v (.n .i64 0))) : SndA1 Tryz.prog 40 [(rob2 j0 j1 mr), .l []] (.v (.b true)) := by
  refine jX (N := 60) tabOk mixed (OrL.ok (l := [(67, o_chk (rob2 j0 j1 mr))]) ⟨ok_chk hc, trivial⟩) ?_
  refine (by kernel_rfl : _ = bif (gEq (rob2 j0 j1 mr) (rob2 j0 j1 mr)) then some (.v (.b true), [])
 else none).trans ?_
  rw [uY, cond_true]
set_option maxRecDepth 100000 in
theorem tr_tw2 (c0 c1 b0 b1 s d : Int) : runK T (OrL.k []) 60 64 [(intsP [c0, c1]), (intsP [b0, b1]), .n .i64 s, .n .i64 d] =
 bif (decide (d ≤ s)) then some (.v (.l [[.n .i64 b0], [.n .i64 b1]]), [])
 else bif (decide (d = 0)) then none
 else bif (decide (d = 0)) then none
 else some (.ow 2 1 [[.n .i64 (IntKind.i64.wrap (c0 + (IntKind.i64.wrap ((IntKind.i64.wrap ((IntKind.i64.wrap (b0 - c0)) * s)).tdiv d))))], [.n .i64 (IntKind.i64.wrap (c1 + (IntKind.i64.wrap ((IntKind.i64.wrap ((IntKind.i64.wrap (b1 - c1)) * s)).tdiv d))))]], []) := by kernel_rfl
theorem snd_tw2 {c0 c1 b0 b1 s d : Int} (p0 : Bn c0) (q0 : Bn b0) (p1 : Bn c1) (q1 : Bn b1) (hs : 1 ≤ s ∧ s ≤ 1073741824) : SndA1 Tryz.prog 64 [(intsP [c0, c1]), (intsP [b0, b1]), .n .i64 s, .n .i64 d] (.v (intsP (nxt s d [c0, c1] [b0, b1]))) := by
  have hq := tr_tw2 c0 c1 b0 b1 s d
  unfold nxt
  by_cases h : d ≤ s
  · rw [if_pos h]
    rw [decide_eq_true h, cond_true] at hq
    exact jX (N := 60) tabOk mixed (OrL.ok (l := []) trivial) hq
  · rw [if_neg h]
    rw [decide_eq_false h, cond_false, decide_eq_false (show ¬ d = 0 by omega)] at hq
    simp only [cond_false] at hq
    rw [tw_wr p0 q0 hs (show 1 ≤ d by omega), tw_wr p1 q1 hs (show 1 ≤ d by omega)] at hq
    exact snd_ow_v (jX (N := 60) tabOk mixed (OrL.ok (l := []) trivial) hq)
theorem snd_pj2 {R1 R2 : List (List PV)} {q0 q1 : Int} (h1 : SndA1 Tryz.prog 40 [.a [.l R1, .l R2], .l []] (.v (.b true))) (h2 : SndA1 Tryz.prog 47 [.a [.l R1, .l R2], (intsP [q0, q1])] (.v (.b true))) : SndA1 Tryz.prog 22 [.a [.l R1, .l R2], .l [], (intsP [q0, q1]), .n .i64 0] (.v (.t [(intsP [q0, q1]), .n .i64 0, .b true])) := by
  refine jX (N := 60) tabOk mixed (OrL.ok (l := [(40, o_cr [.a [.l R1, .l R2], .l []] (.v (.b true))), (47, o_cr [.a [.l R1, .l R2], (intsP [q0, q1])] (.v (.b true)))]) ⟨ok_cr h1, ok_cr h2, trivial⟩) ?_
  refine (by kernel_rfl : _ = bif (g1 [.a [.l R1, .l R2], .l []]) then (bif (g1 [.a [.l R1, .l R2], (intsP [q0, q1])]) then some (.v (.t [.l [[.n .i64 q0], [.n .i64 q1]], .n .i64 0, .b true]), [])
 else none)
 else none).trans ?_
  simp only [g1_t, cond_true]
  rfl
set_option maxRecDepth 100000 in
theorem tr_dist3 (j0 j1 j2 : J) (mr : List (List PV)) (p0 p1 p2 q0 q1 q2 : Int) : runK T (OrL.k [(67, o_chk (rob3 j0 j1 j2 mr))]) 60 63 [(rob3 j0 j1 j2 mr), (intsP [p0, p1, p2]), (intsP [q0, q1, q2])] =
 bif (decide (p0 < (-2147483648))) then some (.v (.n .i64 0), [])
 else bif (decide (2147483648 < p0)) then some (.v (.n .i64 0), [])
 else bif (decide (p1 < (-2147483648))) then some (.v (.n .i64 0), [])
 else bif (decide (2147483648 < p1)) then some (.v (.n .i64 0), [])
 else bif (decide (p2 < (-2147483648))) then some (.v (.n .i64 0), [])
 else bif (decide (2147483648 < p2)) then some (.v (.n .i64 0), [])
 else bif (decide (q0 < (-2147483648))) then some (.v (.n .i64 0), [])
 else bif (decide (2147483648 < q0)) then some (.v (.n .i64 0), [])
 else bif (decide (q1 < (-2147483648))) then some (.v (.n .i64 0), [])
 else bif (decide (2147483648 < q1)) then some (.v (.n .i64 0), [])
 else bif (decide (q2 < (-2147483648))) then some (.v (.n .i64 0), [])
 else bif (decide (2147483648 < q2)) then some (.v (.n .i64 0), [])
 else bif (gEq (rob3 j0 j1 j2 mr) (rob3 j0 j1 j2 mr)) then some (.v (.n .i64 (IntKind.i64.wrap ((IntKind.i64.wrap ((IntKind.i64.wrap (0 + (IntKind.i64.wrap (j0.weight * (max (IntKind.i64.wrap (q0 - p0)) (IntKind.i64.wrap (p0 - q0))))))) + (IntKind.i64.wrap (j1.weight * (max (IntKind.i64.wrap (q1 - p1)) (IntKind.i64.wrap (p1 - q1))))))) + (IntKind.i64.wrap (j2.weight * (max (IntKind.i64.wrap (q2 - p2)) (IntKind.i64.wrap (p2 - q2)))))))), [])
 else none := by kernel_rfl
theorem snd_dist3 {j0 j1 j2 : J} {mr : List (List PV)} {p0 p1 p2 q0 q1 q2 : Int} (w0 : JW j0) (w1 : JW j1) (w2 : JW j2) (b0 : Bn p0) (b1 : Bn p1) (b2 : Bn p2) (c0 : Bn q0) (c1 : Bn q1) (c2 : Bn q2) (hc : SndA1 Tryz.prog 67 [(rob3 j0 j1 j2 mr)] (.v (.n .i64 0))) : SndA1 Tryz.prog 63 [(rob3 j0 j1 j2 mr), (intsP [p0, p1, p2]), (intsP [q0, q1, q2])] (.v (.n .i64 (dst [j0, j1, j2] [p0, p1, p2] [q0, q1, q2]))) := by
  refine jX (N := 60) tabOk mixed (OrL.ok (l := [(67, o_chk (rob3 j0 j1 j2 mr))]) ⟨ok_chk hc, trivial⟩) ?_
  rw [tr_dist3, decide_eq_false (show ¬ p0 < (-2147483648) by unfold Bn at *; omega), cond_false, decide_eq_false (show ¬ 2147483648 < p0 by unfold Bn at *; omega), cond_false, decide_eq_false (show ¬ p1 < (-2147483648) by unfold Bn at *; omega), cond_false, decide_eq_false (show ¬ 2147483648 < p1 by unfold Bn at *; omega), cond_false, decide_eq_false (show ¬ p2 < (-2147483648) by unfold Bn at *; omega), cond_false, decide_eq_false (show ¬ 2147483648 < p2 by unfold Bn at *; omega), cond_false, decide_eq_false (show ¬ q0 < (-2147483648) by unfold Bn at *; omega), cond_false, decide_eq_false (show ¬ 2147483648 < q0 by unfold Bn at *; omega), cond_false, decide_eq_false (show ¬ q1 < (-2147483648) by unfold Bn at *; omega), cond_false, decide_eq_false (show ¬ 2147483648 < q1 by unfold Bn at *; omega), cond_false, decide_eq_false (show ¬ q2 < (-2147483648) by unfold Bn at *; omega), cond_false, decide_eq_false (show ¬ 2147483648 < q2 by unfold Bn at *; omega), cond_false, uY, cond_true]
  have d0 := dst_b (x := q0) (y := p0) w0 c0 b0
  have d1 := dst_b (x := q1) (y := p1) w1 c1 b1
  have d2 := dst_b (x := q2) (y := p2) w2 c2 b2
  rw [dst_step (by omega) w0 c0 b0, dst_step (by omega) w1 c1 b1, dst_step (by omega) w2 c2 b2]
  rw [dst_comm (w := j0.weight) (x := p0) (y := q0), dst_comm (w := j1.weight) (x := p1) (y := q1), dst_comm (w := j2.weight) (x := p2) (y := q2)]
  simp only [dst, Int.zero_add, Int.add_zero, Int.add_assoc]
theorem ok_rchk3 {j0 j1 j2 : J} {mr : List (List PV)} (h : SndA1 Tryz.prog 55 [(rob3 j0 j1 j2 mr)] (.v (.n .i64 0))) : OneOk Tryz.prog 55 (o_chk (rob3 j0 j1 j2 mr)) := by
  intro ps r hh
  unfold o_chk at hh
  split at hh
  · simp only [Option.some.injEq, Prod.mk.injEq] at hh
    obtain ⟨hg, rfl⟩ := hh
    obtain rfl := gEq_eq hg
    exact h
  · cases hh
set_option maxRecDepth 100000 in
theorem tr_rdist3 (j0 j1 j2 : J) (mr : List (List PV)) (p0 p1 p2 q0 q1 q2 : Int) : runK T (OrL.k [(55, o_chk (rob3 j0 j1 j2 mr))]) 60 34 [(rob3 j0 j1 j2 mr), (intsP [p0, p1, p2]), (intsP [q0, q1, q2])] =
 bif (gEq (rob3 j0 j1 j2 mr) (rob3 j0 j1 j2 mr)) then (bif (decide (p0 < (-2147483648))) then some (.v (.n .i64 0), [])
 else bif (decide (2147483648 < p0)) then some (.v (.n .i64 0), [])
 else bif (decide (p1 < (-2147483648))) then some (.v (.n .i64 0), [])
 else bif (decide (2147483648 < p1)) then some (.v (.n .i64 0), [])
 else bif (decide (p2 < (-2147483648))) then some (.v (.n .i64 0), [])
 else bif (decide (2147483648 < p2)) then some (.v (.n .i64 0), [])
 else bif (decide (q0 < (-2147483648))) then some (.v (.n .i64 0), [])
 else bif (decide (2147483648 < q0)) then some (.v (.n .i64 0), [])
 else bif (decide (q1 < (-2147483648))) then some (.v (.n .i64 0), [])
 else bif (decide (2147483648 < q1)) then some (.v (.n .i64 0), [])
 else bif (decide (q2 < (-2147483648))) then some (.v (.n .i64 0), [])
 else bif (decide (2147483648 < q2)) then some (.v (.n .i64 0), [])
 else some (.v (.n .i64 (IntKind.i64.wrap ((IntKind.i64.wrap ((IntKind.i64.wrap (0 + (IntKind.i64.wrap (j0.weight * (max (IntKind.i64.wrap (p0 - q0)) (IntKind.i64.wrap (q0 - p0))))))) + (IntKind.i64.wrap (j1.weight * (max (IntKind.i64.wrap (p1 - q1)) (IntKind.i64.wrap (q1 - p1))))))) + (IntKind.i64.wrap (j2.weight * (max (IntKind.i64.wrap (p2 - q2)) (IntKind.i64.wrap (q2 - p2)))))))), []))
 else none := by kernel_rfl
theorem snd_rdist3 {j0 j1 j2 : J} {mr : List (List PV)} {p0 p1 p2 q0 q1 q2 : Int} (w0 : JW j0) (w1 : JW j1) (w2 : JW j2) (b0 : Bn p0) (b1 : Bn p1) (b2 : Bn p2) (c0 : Bn q0) (c1 : Bn q1) (c2 : Bn q2) (hc : SndA1 Tryz.prog 55 [(rob3 j0 j1 j2 mr)] (.v (.n .i64 0))) : SndA1 Tryz.prog 34 [(rob3 j0 j1 j2 mr), (intsP [p0, p1, p2]), (intsP [q0, q1, q2])] (.v (.n .i64 (dst [j0, j1, j2] [p0, p1, p2] [q0, q1, q2]))) := by
  refine jX (N := 60) tabOk mixed (OrL.ok (l := [(55, o_chk (rob3 j0 j1 j2 mr))]) ⟨ok_rchk3 hc, trivial⟩) ?_
  rw [tr_rdist3, uY, cond_true, decide_eq_false (show ¬ p0 < (-2147483648) by unfold Bn at *; omega), cond_false, decide_eq_false (show ¬ 2147483648 < p0 by unfold Bn at *; omega), cond_false, decide_eq_false (show ¬ p1 < (-2147483648) by unfold Bn at *; omega), cond_false, decide_eq_false (show ¬ 2147483648 < p1 by unfold Bn at *; omega), cond_false, decide_eq_false (show ¬ p2 < (-2147483648) by unfold Bn at *; omega), cond_false, decide_eq_false (show ¬ 2147483648 < p2 by unfold Bn at *; omega), cond_false, decide_eq_false (show ¬ q0 < (-2147483648) by unfold Bn at *; omega), cond_false, decide_eq_false (show ¬ 2147483648 < q0 by unfold Bn at *; omega), cond_false, decide_eq_false (show ¬ q1 < (-2147483648) by unfold Bn at *; omega), cond_false, decide_eq_false (show ¬ 2147483648 < q1 by unfold Bn at *; omega), cond_false, decide_eq_false (show ¬ q2 < (-2147483648) by unfold Bn at *; omega), cond_false, decide_eq_false (show ¬ 2147483648 < q2 by unfold Bn at *; omega), cond_false]
  have d0 := dst_b (x := p0) (y := q0) w0 b0 c0
  have d1 := dst_b (x := p1) (y := q1) w1 b1 c1
  have d2 := dst_b (x := p2) (y := q2) w2 b2 c2
  rw [dst_step (by omega) w0 b0 c0, dst_step (by omega) w1 b1 c1, dst_step (by omega) w2 b2 c2]
  simp only [dst, Int.zero_add, Int.add_zero, Int.add_assoc]
theorem snd_ins_3 {j0 j1 j2 : J} {mr : List (List PV)} {c0 c1 c2 : Int} (h0 : cin j0 c0) (h1 : cin j1 c1) (h2 : cin j2 c2) (hc : SndA1 Tryz.prog 67 [(rob3 j0 j1 j2 mr)] (.v (.n .i64 0))) : SndA1 Tryz.prog 47 [(rob3 j0 j1 j2 mr), (intsP [c0, c1, c2])] (.v (.b true)) := by
  refine jX (N := 60) tabOk mixed (OrL.ok (l := [(67, o_chk (rob3 j0 j1 j2 mr))]) ⟨ok_chk hc, trivial⟩) ?_
  refine (by kernel_rfl : _ = bif (gEq (rob3 j0 j1 j2 mr) (rob3 j0 j1 j2 mr)) then (bif (decide (j0.lo ≤ c0)) then (bif (decide (c0 ≤ j0.hi)) then (bif (decide (j1.lo ≤ c1)) then (bif (decide (c1 ≤ j1.hi)) then (bif (decide (j2.lo ≤ c2)) then (bif (decide (c2 ≤ j2.hi)) then some (.v (.b true), [])
 else some (.v (.b false), []))
 else some (.v (.b false), []))
 else some (.v (.b false), []))
 else some (.v (.b false), []))
 else some (.v (.b false), []))
 else some (.v (.b false), []))
 else none).trans ?_
  rw [uY, cond_true, decide_eq_true h0.1, cond_true, decide_eq_true h0.2, cond_true, decide_eq_true h1.1, cond_true, decide_eq_true h1.2, cond_true, decide_eq_true h2.1, cond_true, decide_eq_true h2.2, cond_true]
theorem snd_bx_3 {c0 c1 c2 : Int} (b0 : Bn c0) (b1 : Bn c1) (b2 : Bn c2) : SndA1 Tryz.prog 49 [(intsP [c0, c1, c2])] (.v (.l [Rx.ivC ⟨c0, c0⟩, Rx.ivC ⟨c1, c1⟩, Rx.ivC ⟨c2, c2⟩])) := by
  refine jX (N := 60) tabOk mixed (OrL.ok (l := Od.L6) Od.L6_ok) ?_
  refine (by kernel_rfl : _ = bif (decide (c0 < (-2147483648))) then some (.v (.l []), [])
 else bif (decide (2147483648 < c0)) then some (.v (.l []), [])
 else bif (decide (c1 < (-2147483648))) then some (.v (.l []), [])
 else bif (decide (2147483648 < c1)) then some (.v (.l []), [])
 else bif (decide (c2 < (-2147483648))) then some (.v (.l []), [])
 else bif (decide (2147483648 < c2)) then some (.v (.l []), [])
 else some (.v (.l [[.n .i64 (Iv.of c0).lo, .n .i64 (Iv.of c0).hi], [.n .i64 (Iv.of c1).lo, .n .i64 (Iv.of c1).hi], [.n .i64 (Iv.of c2).lo, .n .i64 (Iv.of c2).hi]]), [])).trans ?_
  rw [decide_eq_false (show ¬ c0 < -2147483648 by unfold Bn at *; omega), cond_false, decide_eq_false (show ¬ 2147483648 < c0 by unfold Bn at *; omega), cond_false, decide_eq_false (show ¬ c1 < -2147483648 by unfold Bn at *; omega), cond_false, decide_eq_false (show ¬ 2147483648 < c1 by unfold Bn at *; omega), cond_false, decide_eq_false (show ¬ c2 < -2147483648 by unfold Bn at *; omega), cond_false, decide_eq_false (show ¬ 2147483648 < c2 by unfold Bn at *; omega), cond_false]
  have e : ∀ x, Bn x → Iv.of x = ⟨x, x⟩ := fun x hx => by unfold Bn at hx; unfold Iv.of clampI; rw [show min (max x (-2147483648)) 2147483648 = x by omega]
  rw [e c0 b0, e c1 b1, e c2 b2]
  rfl
theorem snd_ck_3 {j0 j1 j2 : J} {mr : List (List PV)} (hc : SndA1 Tryz.prog 67 [(rob3 j0 j1 j2 mr)] (.v (.n .i64 0))) : SndA1 Tryz.prog 40 [(rob3 j0 j1 j2 mr), .l []] (.v (.b true)) := by
  refine jX (N := 60) tabOk mixed (OrL.ok (l := [(67, o_chk (rob3 j0 j1 j2 mr))]) ⟨ok_chk hc, trivial⟩) ?_
  refine (by kernel_rfl : _ = bif (gEq (rob3 j0 j1 j2 mr) (rob3 j0 j1 j2 mr)) then some (.v (.b true), [])
 else none).trans ?_
  rw [uY, cond_true]
set_option maxRecDepth 100000 in
theorem tr_tw3 (c0 c1 c2 b0 b1 b2 s d : Int) : runK T (OrL.k []) 60 64 [(intsP [c0, c1, c2]), (intsP [b0, b1, b2]), .n .i64 s, .n .i64 d] =
 bif (decide (d ≤ s)) then some (.v (.l [[.n .i64 b0], [.n .i64 b1], [.n .i64 b2]]), [])
 else bif (decide (d = 0)) then none
 else bif (decide (d = 0)) then none
 else bif (decide (d = 0)) then none
 else some (.ow 2 1 [[.n .i64 (IntKind.i64.wrap (c0 + (IntKind.i64.wrap ((IntKind.i64.wrap ((IntKind.i64.wrap (b0 - c0)) * s)).tdiv d))))], [.n .i64 (IntKind.i64.wrap (c1 + (IntKind.i64.wrap ((IntKind.i64.wrap ((IntKind.i64.wrap (b1 - c1)) * s)).tdiv d))))], [.n .i64 (IntKind.i64.wrap (c2 + (IntKind.i64.wrap ((IntKind.i64.wrap ((IntKind.i64.wrap (b2 - c2)) * s)).tdiv d))))]], []) := by kernel_rfl
theorem snd_tw3 {c0 c1 c2 b0 b1 b2 s d : Int} (p0 : Bn c0) (q0 : Bn b0) (p1 : Bn c1) (q1 : Bn b1) (p2 : Bn c2) (q2 : Bn b2) (hs : 1 ≤ s ∧ s ≤ 1073741824) : SndA1 Tryz.prog 64 [(intsP [c0, c1, c2]), (intsP [b0, b1, b2]), .n .i64 s, .n .i64 d] (.v (intsP (nxt s d [c0, c1, c2] [b0, b1, b2]))) := by
  have hq := tr_tw3 c0 c1 c2 b0 b1 b2 s d
  unfold nxt
  by_cases h : d ≤ s
  · rw [if_pos h]
    rw [decide_eq_true h, cond_true] at hq
    exact jX (N := 60) tabOk mixed (OrL.ok (l := []) trivial) hq
  · rw [if_neg h]
    rw [decide_eq_false h, cond_false, decide_eq_false (show ¬ d = 0 by omega)] at hq
    simp only [cond_false] at hq
    rw [tw_wr p0 q0 hs (show 1 ≤ d by omega), tw_wr p1 q1 hs (show 1 ≤ d by omega), tw_wr p2 q2 hs (show 1 ≤ d by omega)] at hq
    exact snd_ow_v (jX (N := 60) tabOk mixed (OrL.ok (l := []) trivial) hq)
theorem snd_pj3 {R1 R2 : List (List PV)} {q0 q1 q2 : Int} (h1 : SndA1 Tryz.prog 40 [.a [.l R1, .l R2], .l []] (.v (.b true))) (h2 : SndA1 Tryz.prog 47 [.a [.l R1, .l R2], (intsP [q0, q1, q2])] (.v (.b true))) : SndA1 Tryz.prog 22 [.a [.l R1, .l R2], .l [], (intsP [q0, q1, q2]), .n .i64 0] (.v (.t [(intsP [q0, q1, q2]), .n .i64 0, .b true])) := by
  refine jX (N := 60) tabOk mixed (OrL.ok (l := [(40, o_cr [.a [.l R1, .l R2], .l []] (.v (.b true))), (47, o_cr [.a [.l R1, .l R2], (intsP [q0, q1, q2])] (.v (.b true)))]) ⟨ok_cr h1, ok_cr h2, trivial⟩) ?_
  refine (by kernel_rfl : _ = bif (g1 [.a [.l R1, .l R2], .l []]) then (bif (g1 [.a [.l R1, .l R2], (intsP [q0, q1, q2])]) then some (.v (.t [.l [[.n .i64 q0], [.n .i64 q1], [.n .i64 q2]], .n .i64 0, .b true]), [])
 else none)
 else none).trans ?_
  simp only [g1_t, cond_true]
  rfl
theorem snd_hd0 {R1 R2 B K : List (List PV)} (h1 : SndA1 Tryz.prog 40 [.a [.l R1, .l R2], .l []] (.v (.b true))) (h2 : SndA1 Tryz.prog 41 [.a [.l R1, .l R2], .l B] (.v (.b true))) (h3 : SndA1 Tryz.prog 73 [.a [.l R1, .l R2], .l B] (.v (.l K))) : SndA1 Tryz.prog 19 [.a [.l R1, .l R2], .l [], .l B] (.v (.b true)) := by
  refine jX (N := 60) tabOk mixed (OrL.ok (l := [(40, o_cr [.a [.l R1, .l R2], .l []] (.v (.b true))), (41, o_cr [.a [.l R1, .l R2], .l B] (.v (.b true))), (73, o_cr [.a [.l R1, .l R2], .l B] (.v (.l K)))]) ⟨ok_cr h1, ok_cr h2, ok_cr h3, trivial⟩) ?_
  refine (by kernel_rfl : _ = bif (g1 [.a [.l R1, .l R2], .l []]) then (bif (g1 [.a [.l R1, .l R2], .l B]) then (bif (g1 [.a [.l R1, .l R2], .l B]) then some (.v (.b true), [])
 else none)
 else none)
 else none).trans ?_
  simp only [g1_t, cond_true]
end Go.Proofs.YtnlnbnjnapofmaaGreat.Pd
namespace Go.Proofs.YtnlnbnjnapofmaaGreat.Pe
open Go.Rx Rt Go.Sx Go.RowKit
open Ov Ow Pc Pd
def nx1 (s d x y : Int) : Int := if d ≤ s then y else tw s d x y
def nxs (s d : Int) (c b : List Int) : List Int := List.zipWith (nx1 s d) c b
def hd (R1 R2 rows : List (List PV)) (s : Int) (b c : List Int) : St := ⟨[(1, .v (.l [])), (3, .v (intsP b)), (4, .v (.n .i64 s)), (5, .v (.n .i64 0)), (6, .v (.n .i64 200)), (7, .p 7 0), (16, .v (intsP c)), (17, .o 71)], [(7, .blk [.v ((.l R1)), .v ((.l R2))]), (71, .reg 48 1 rows)]⟩
def out0 (R1 R2 rows : List (List PV)) (s : Int) (b c : List Int) (D : List Int → Int) : St := ⟨[(15, .v (.n .i64 1)), (14, .o 71), (78, .o 71), (77, .v (.b true)), (76, .v (.n .i64 (D c))), (18, .v (.n .i64 (D c))), (75, .v (.n .i64 (D c))), (74, .v (intsP b)), (73, .v (intsP c)), (72, .v (.a [(.l R1), (.l R2)])), (1, .v (.l [])), (3, .v (intsP b)), (4, .v (.n .i64 s)), (5, .v (.n .i64 0)), (6, .v (.n .i64 200)), (7, .p 7 0), (16, .v (intsP c)), (17, .o 71)], [(7, .blk [.v ((.l R1)), .v ((.l R2))]), (71, .reg 48 1 rows)]⟩
def out1 (R1 R2 rows : List (List PV)) (s : Int) (b c : List Int) (D : List Int → Int) : St := ⟨[(15, .v (.n .i64 4)), (14, .o 71), (83, .o 71), (82, .v (.b true)), (81, .v (.n .i64 200)), (80, .v (.n .i64 (rows.length : Int))), (79, .o 71), (77, .v (.b false)), (76, .v (.n .i64 (D c))), (18, .v (.n .i64 (D c))), (75, .v (.n .i64 (D c))), (74, .v (intsP b)), (73, .v (intsP c)), (72, .v (.a [(.l R1), (.l R2)])), (1, .v (.l [])), (3, .v (intsP b)), (4, .v (.n .i64 s)), (5, .v (.n .i64 0)), (6, .v (.n .i64 200)), (7, .p 7 0), (16, .v (intsP c)), (17, .o 71)], [(7, .blk [.v ((.l R1)), .v ((.l R2))]), (71, .reg 48 1 rows)]⟩
def out2 (R1 R2 rows : List (List PV)) (s : Int) (b c : List Int) (D : List Int → Int) : St := ⟨[(15, .v (.n .i64 2)), (14, .o 71), (107, .o 71), (106, .v (.b true)), (105, .v (.b true)), (104, .v (.n .i64 (D c))), (103, .v (.n .i64 (D (nxs s (D c) c b)))), (102, .v (intsP b)), (101, .v (intsP (nxs s (D c) c b))), (100, .v (.a [(.l R1), (.l R2)])), (99, .v (.b false)), (98, .v (.b false)), (97, .v (.b true)), (21, .v (.b true)), (20, .v (.n .i64 0)), (19, .v (intsP (nxs s (D c) c b))), (96, .v (.b true)), (95, .v (.n .i64 0)), (94, .v (intsP (nxs s (D c) c b))), (84, .v (.t [intsP (nxs s (D c) c b), .n .i64 0, .b true])), (93, .v (.t [intsP (nxs s (D c) c b), .n .i64 0, .b true])), (92, .v (.n .i64 0)), (91, .v (intsP (nxs s (D c) c b))), (90, .v (.n .i64 (D c))), (89, .v (.n .i64 s)), (88, .v (intsP b)), (87, .v (intsP c)), (86, .v (.l [])), (85, .v (.a [(.l R1), (.l R2)])), (82, .v (.b false)), (81, .v (.n .i64 200)), (80, .v (.n .i64 (rows.length : Int))), (79, .o 71), (77, .v (.b false)), (76, .v (.n .i64 (D c))), (18, .v (.n .i64 (D c))), (75, .v (.n .i64 (D c))), (74, .v (intsP b)), (73, .v (intsP c)), (72, .v (.a [(.l R1), (.l R2)])), (1, .v (.l [])), (3, .v (intsP b)), (4, .v (.n .i64 s)), (5, .v (.n .i64 0)), (6, .v (.n .i64 200)), (7, .p 7 0), (16, .v (intsP c)), (17, .o 71)], [(7, .blk [.v ((.l R1)), .v ((.l R2))]), (71, .reg 48 1 rows)]⟩
noncomputable def o_in1 (R : PV) (ok : List Int → Bool) : List PV → Option (Bool × Ret) := fun ps => match ps with
  | [r, .l [[.n .i64 c0]]] => some (gEq r R && ok [c0], .v (.b true))
  | _ => none
noncomputable def o_ds1 (R B : PV) (ok : List Int → Bool) (D : List Int → Int) : List PV → Option (Bool × Ret) := fun ps => match ps with
  | [r, .l [[.n .i64 c0]], b] => some (gEq (.t [r, b]) (.t [R, B]) && ok [c0], .v (.n .i64 (D [c0])))
  | _ => none
noncomputable def o_tw1 (B : PV) (s b0 : Int) (ok : List Int → Bool) : List PV → Option (Bool × Ret) := fun ps => match ps with
  | [.l [[.n .i64 c0]], b, .n .i64 s1, .n .i64 d] => some (gEq (.t [b, .n .i64 s1]) (.t [B, .n .i64 s]) && ok [c0], .v (.l [[.n .i64 (nx1 s d c0 b0)]]))
  | _ => none
noncomputable def o_pj1 (R : PV) (ok : List Int → Bool) : List PV → Option (Bool × Ret) := fun ps => match ps with
  | [r, l, .l [[.n .i64 c0]], .n .i64 q] => some (gEq (.t [r, l, .n .i64 q]) (.t [R, .l [], .n .i64 0]) && ok [c0], .v (.t [.l [[.n .i64 c0]], .n .i64 0, .b true]))
  | _ => none
theorem ok_in1 {R : PV} {ok : List Int → Bool} (h : ∀ c : List Int, c.length = 1 → ok c = true → SndA1 Tryz.prog 47 [R, intsP c] (.v (.b true))) : OneOk Tryz.prog 47 (o_in1 R ok) := by
  intro ps r hh
  unfold o_in1 at hh
  split at hh
  · simp only [Option.some.injEq, Prod.mk.injEq, Bool.and_eq_true] at hh
    obtain ⟨⟨hg, hk⟩, rfl⟩ := hh
    have hg := gEq_eq hg
    obtain rfl := hg
    exact h [_] rfl hk
  · cases hh
theorem ok_ds1 {R B : PV} {ok : List Int → Bool} {D : List Int → Int} (h : ∀ c : List Int, c.length = 1 → ok c = true → SndA1 Tryz.prog 63 [R, intsP c, B] (.v (.n .i64 (D c)))) : OneOk Tryz.prog 63 (o_ds1 R B ok D) := by
  intro ps r hh
  unfold o_ds1 at hh
  split at hh
  · simp only [Option.some.injEq, Prod.mk.injEq, Bool.and_eq_true] at hh
    obtain ⟨⟨hg, hk⟩, rfl⟩ := hh
    have hg := gEq_eq hg
    simp only [PV.t.injEq, List.cons.injEq, and_true] at hg
    obtain ⟨rfl, rfl⟩ := hg
    exact h [_] rfl hk
  · cases hh
theorem ok_tw1 {B : PV} {s b0 : Int} {ok : List Int → Bool} (h : ∀ (c : List Int) (d : Int), c.length = 1 → ok c = true → SndA1 Tryz.prog 64 [intsP c, B, .n .i64 s, .n .i64 d] (.v (intsP (nxs s d c [b0])))) : OneOk Tryz.prog 64 (o_tw1 B s b0 ok) := by
  intro ps r hh
  unfold o_tw1 at hh
  split at hh
  · simp only [Option.some.injEq, Prod.mk.injEq, Bool.and_eq_true] at hh
    obtain ⟨⟨hg, hk⟩, rfl⟩ := hh
    have hg := gEq_eq hg
    simp only [PV.t.injEq, List.cons.injEq, and_true, PV.n.injEq, true_and] at hg
    obtain ⟨rfl, rfl⟩ := hg
    exact h [_] _ rfl hk
  · cases hh
theorem ok_pj1 {R : PV} {ok : List Int → Bool} (h : ∀ c : List Int, c.length = 1 → ok c = true → SndA1 Tryz.prog 22 [R, .l [], intsP c, .n .i64 0] (.v (.t [intsP c, .n .i64 0, .b true]))) : OneOk Tryz.prog 22 (o_pj1 R ok) := by
  intro ps r hh
  unfold o_pj1 at hh
  split at hh
  · simp only [Option.some.injEq, Prod.mk.injEq, Bool.and_eq_true] at hh
    obtain ⟨⟨hg, hk⟩, rfl⟩ := hh
    have hg := gEq_eq hg
    simp only [PV.t.injEq, List.cons.injEq, and_true, PV.n.injEq, true_and] at hg
    obtain ⟨rfl, rfl, rfl⟩ := hg
    exact h [_] rfl hk
  · cases hh
noncomputable def lo1 (R1 R2 BX : List (List PV)) (s a0 b0 : Int) (ok : List Int → Bool) (D : List Int → Int) : OrL := [(40, o_cr [.a [.l R1, .l R2], .l []] (.v (.b true))), (47, o_in1 (.a [.l R1, .l R2]) ok), (49, o_cr [intsP [a0]] (.v (.l BX))), (19, o_cr [.a [.l R1, .l R2], .l [], .l BX] (.v (.b true))), (63, o_ds1 (.a [.l R1, .l R2]) (intsP [b0]) ok D), (64, o_tw1 (intsP [b0]) s b0 ok), (22, o_pj1 (.a [.l R1, .l R2]) ok)]
set_option maxRecDepth 100000 in
theorem rd1 (G : St → Option (Ret × Mem)) (K : Cont) (R1 R2 BX rows : List (List PV)) (s a0 b0 c0 : Int) (ok : List Int → Bool) (D : List Int → Int) : runCK 300 (cxF T (OrL.k (lo1 R1 R2 BX s a0 b0 ok D)) 300 33 (ntmF T 33)) (ckF T (OrL.k (lo1 R1 R2 BX s a0 b0 ok D)) 300) (loopAt T 33 [0, 1, 1, 1, 1, 1]) (fun e τ => match e with
  | .normal => G (prune ((cxF T (OrL.k (lo1 R1 R2 BX s a0 b0 ok D)) 300 33 (ntmF T 33)).T.hint (cxF T (OrL.k (lo1 R1 R2 BX s a0 b0 ok D)) 300 33 (ntmF T 33)).me (firstR (loopAt T 33 [0, 1, 1, 1, 1, 1]))) τ)
  | e => K e τ) (hd R1 R2 rows s [b0] [c0]) =
 (bif (g1 [.a [.l R1, .l R2], intsP [b0]] && ok [c0]) then (bif (decide ((D [c0]) = 0)) then (K .ret (out0 R1 R2 rows s [b0] [c0] D))
 else (bif (decide (200 ≤ (rows.length : Int))) then (K .ret (out1 R1 R2 rows s [b0] [c0] D))
 else (bif (g1 [intsP [b0], .n .i64 s] && ok [c0]) then (bif (g1 [.a [.l R1, .l R2], .l [], .n .i64 0] && ok (nxs s (D [c0]) [c0] [b0])) then (bif (g1 [.a [.l R1, .l R2], intsP [b0]] && ok (nxs s (D [c0]) [c0] [b0])) then (bif (decide ((D [c0]) ≤ (D (nxs s (D [c0]) [c0] [b0])))) then (K .ret (out2 R1 R2 rows s [b0] [c0] D))
 else (bif (decide (rows.length + 1 ≤ 1000000)) then (G (hd R1 R2 (rows ++ [[intsP (nxs s (D [c0]) [c0] [b0])]]) s [b0] (nxs s (D [c0]) [c0] [b0])))
 else none))
 else none)
 else none)
 else none)))
 else none) := by kernel_rfl
def Goes (ok : List Int → Bool) (D : List Int → Int) (s : Int) (b : List Int) : Nat → List Int → Prop
  | 0, c => ok c = true ∧ D c = 0
  | k + 1, c => ok c = true ∧ ¬ D c = 0 ∧ D (nxs s (D c) c b) < D c ∧ Goes ok D s b k (nxs s (D c) c b)
theorem Goes.ok {ok : List Int → Bool} {D : List Int → Int} {s : Int} {b : List Int} : ∀ {k : Nat} {c : List Int}, Goes ok D s b k c → ok c = true
  | 0, _, h => h.1
  | _ + 1, _, h => h.1
def path (D : List Int → Int) (s : Int) (b : List Int) : Nat → List Int → List (List Int)
  | 0, _ => []
  | k + 1, c => nxs s (D c) c b :: path D s b k (nxs s (D c) c b)
def fin (D : List Int → Int) (s : Int) (b : List Int) : Nat → List Int → List Int
  | 0, c => c
  | k + 1, c => fin D s b k (nxs s (D c) c b)
theorem lp1 (K : Cont) (R1 R2 BX : List (List PV)) (s a0 b0 : Int) (ok : List Int → Bool) (D : List Int → Int) : ∀ (k : Nat) (c : List Int) (rows : List (List PV)) (m : Nat), c.length = 1 → Goes ok D s [b0] k c → rows.length + k < 200 → k < m →
    LF 300 (cxF T (OrL.k (lo1 R1 R2 BX s a0 b0 ok D)) 300 33 (ntmF T 33)) (ckF T (OrL.k (lo1 R1 R2 BX s a0 b0 ok D)) 300) (loopAt T 33 [0, 1, 1, 1, 1, 1]) ((cxF T (OrL.k (lo1 R1 R2 BX s a0 b0 ok D)) 300 33 (ntmF T 33)).T.hint (cxF T (OrL.k (lo1 R1 R2 BX s a0 b0 ok D)) 300 33 (ntmF T 33)).me (firstR (loopAt T 33 [0, 1, 1, 1, 1, 1]))) K m (hd R1 R2 rows s [b0] c) = K .ret (out0 R1 R2 (rows ++ (path D s [b0] k c).map fun v => [intsP v]) s [b0] (fin D s [b0] k c) D)
  | 0, c, rows, m + 1, hc, hg, hr, hm => by
    obtain ⟨c0, rfl⟩ := l1 hc
    refine (rd1 (fun σ => LF 300 (cxF T (OrL.k (lo1 R1 R2 BX s a0 b0 ok D)) 300 33 (ntmF T 33)) (ckF T (OrL.k (lo1 R1 R2 BX s a0 b0 ok D)) 300) (loopAt T 33 [0, 1, 1, 1, 1, 1]) ((cxF T (OrL.k (lo1 R1 R2 BX s a0 b0 ok D)) 300 33 (ntmF T 33)).T.hint (cxF T (OrL.k (lo1 R1 R2 BX s a0 b0 ok D)) 300 33 (ntmF T 33)).me (firstR (loopAt T 33 [0, 1, 1, 1, 1, 1]))) K m σ) K R1 R2 BX rows s a0 b0 c0 ok D).trans ?_
    rw [hg.1, decide_eq_true hg.2]
    simp only [g1_t, cond_true, Bool.and_true, path, fin, List.map_nil, List.append_nil]
  | k + 1, c, rows, m + 1, hc, hg, hr, hm => by
    obtain ⟨c0, rfl⟩ := l1 hc
    obtain ⟨h1, h2, h3, h4⟩ := hg
    refine (rd1 (fun σ => LF 300 (cxF T (OrL.k (lo1 R1 R2 BX s a0 b0 ok D)) 300 33 (ntmF T 33)) (ckF T (OrL.k (lo1 R1 R2 BX s a0 b0 ok D)) 300) (loopAt T 33 [0, 1, 1, 1, 1, 1]) ((cxF T (OrL.k (lo1 R1 R2 BX s a0 b0 ok D)) 300 33 (ntmF T 33)).T.hint (cxF T (OrL.k (lo1 R1 R2 BX s a0 b0 ok D)) 300 33 (ntmF T 33)).me (firstR (loopAt T 33 [0, 1, 1, 1, 1, 1]))) K m σ) K R1 R2 BX rows s a0 b0 c0 ok D).trans ?_
    rw [h1, decide_eq_false h2, decide_eq_false (show ¬ (200 : Int) ≤ (rows.length : Int) by omega), Goes.ok h4, decide_eq_false (show ¬ D [c0] ≤ D (nxs s (D [c0]) [c0] [b0]) by omega), decide_eq_true (show rows.length + 1 ≤ 1000000 by omega)]
    simp only [g1_t, cond_true, cond_false, Bool.and_true]
    rw [lp1 K R1 R2 BX s a0 b0 ok D k _ _ m (by simp [nxs]) h4 (by simp; omega) (by omega)]
    simp only [path, fin, List.map_cons, List.append_assoc, List.cons_append, List.nil_append]
set_option maxRecDepth 100000 in
theorem px1 (R1 R2 BX rf : List (List PV)) (s a0 b0 : Int) (ok : List Int → Bool) (D : List Int → Int) (cf : List Int) : runKL T (OrL.k (lo1 R1 R2 BX s a0 b0 ok D)) (loopsL [([0, 1, 1, 1, 1, 1], sumAt (hd R1 R2 [[intsP [a0]]] s [b0] [a0]) (fun K => K .ret (out0 R1 R2 rf s [b0] cf D)))]) 300 33 [.a [.l R1, .l R2], .l [], intsP [a0], intsP [b0], .n .i64 s, .n .i64 0, .n .i64 200] =
 (bif (g1 [.a [.l R1, .l R2], .l []]) then (bif (gEq (.a [.l R1, .l R2]) (.a [.l R1, .l R2]) && ok [a0]) then (bif (gEq (.a [.l R1, .l R2]) (.a [.l R1, .l R2]) && ok [b0]) then (bif (g1 [intsP [a0]]) then (bif (g1 [.a [.l R1, .l R2], .l [], .l BX]) then (bif (decide (s < 1)) then some (.v (.t [.l [], .n .i64 0]), [])
 else (bif (decide (1073741824 < s)) then some (.v (.t [.l [], .n .i64 0]), [])
 else (bif gSt (hd R1 R2 [[intsP [a0]]] s [b0] [a0]) (hd R1 R2 [[intsP [a0]]] s [b0] [a0]) then some (.v (.t [.l rf, .n .i64 1]), []) else none)))
 else none)
 else none)
 else none)
 else none)
 else none) := by kernel_rfl
theorem snd_ext1 {R1 R2 BX : List (List PV)} {s a0 b0 : Int} {ok : List Int → Bool} {D : List Int → Int} (k : Nat) (hs : 1 ≤ s ∧ s ≤ 1073741824) (hb : ok [b0] = true) (hg : Goes ok D s [b0] k [a0]) (hk : k < 199)
    (h1 : SndA1 Tryz.prog 40 [.a [.l R1, .l R2], .l []] (.v (.b true))) (h2 : ∀ c : List Int, c.length = 1 → ok c = true → SndA1 Tryz.prog 47 [.a [.l R1, .l R2], intsP c] (.v (.b true))) (h3 : SndA1 Tryz.prog 49 [intsP [a0]] (.v (.l BX))) (h4 : SndA1 Tryz.prog 19 [.a [.l R1, .l R2], .l [], .l BX] (.v (.b true)))
    (h5 : ∀ c : List Int, c.length = 1 → ok c = true → SndA1 Tryz.prog 63 [.a [.l R1, .l R2], intsP c, intsP [b0]] (.v (.n .i64 (D c)))) (h6 : ∀ (c : List Int) (d : Int), c.length = 1 → ok c = true → SndA1 Tryz.prog 64 [intsP c, intsP [b0], .n .i64 s, .n .i64 d] (.v (intsP (nxs s d c [b0]))))
    (h7 : ∀ c : List Int, c.length = 1 → ok c = true → SndA1 Tryz.prog 22 [.a [.l R1, .l R2], .l [], intsP c, .n .i64 0] (.v (.t [intsP c, .n .i64 0, .b true]))) :
    SndA1 Tryz.prog 33 [.a [.l R1, .l R2], .l [], intsP [a0], intsP [b0], .n .i64 s, .n .i64 0, .n .i64 200] (.v (.t [.l (([a0] :: path D s [b0] k [a0]).map fun v => [intsP v]), .n .i64 1])) := by
  refine runKL_sound (N := 300) (LO := loopsL [([0, 1, 1, 1, 1, 1], sumAt (hd R1 R2 [[intsP [a0]]] s [b0] [a0]) (fun K => K .ret (out0 R1 R2 (([a0] :: path D s [b0] k [a0]).map fun v => [intsP v]) s [b0] (fin D s [b0] k [a0]) D)))]) tabOk mixed (OrL.ok (l := lo1 R1 R2 BX s a0 b0 ok D) ⟨ok_cr h1, ok_in1 h2, ok_cr h3, ok_cr h4, ok_ds1 h5, ok_tw1 h6, ok_pj1 h7, trivial⟩) (fun p S hp => ?_) ?_
  · refine loopsL_ok (L := loopAt T 33) (l := [([0, 1, 1, 1, 1, 1], sumAt (hd R1 R2 [[intsP [a0]]] s [b0] [a0]) (fun K => K .ret (out0 R1 R2 (([a0] :: path D s [b0] k [a0]).map fun v => [intsP v]) s [b0] (fin D s [b0] k [a0]) D)))]) (show AllP _ [([0, 1, 1, 1, 1, 1], sumAt (hd R1 R2 [[intsP [a0]]] s [b0] [a0]) (fun K => K .ret (out0 R1 R2 (([a0] :: path D s [b0] k [a0]).map fun v => [intsP v]) s [b0] (fin D s [b0] k [a0]) D)))] from ⟨sumAt_ok fun K r hr => ?_, trivial⟩) p S hp
    have := lp1 K R1 R2 BX s a0 b0 ok D k [a0] [[intsP [a0]]] 300 rfl hg (by simp; omega) (by omega)
    exact this.trans hr
  · refine (px1 R1 R2 BX _ s a0 b0 ok D _).trans ?_
    simp only [g1_t, uY, gSt_self, Goes.ok hg, hb, cond_true, Bool.and_true, decide_eq_false (show ¬ s < 1 by omega), decide_eq_false (show ¬ 1073741824 < s by omega), cond_false]
noncomputable def o_in2 (R : PV) (ok : List Int → Bool) : List PV → Option (Bool × Ret) := fun ps => match ps with
  | [r, .l [[.n .i64 c0], [.n .i64 c1]]] => some (gEq r R && ok [c0, c1], .v (.b true))
  | _ => none
noncomputable def o_ds2 (R B : PV) (ok : List Int → Bool) (D : List Int → Int) : List PV → Option (Bool × Ret) := fun ps => match ps with
  | [r, .l [[.n .i64 c0], [.n .i64 c1]], b] => some (gEq (.t [r, b]) (.t [R, B]) && ok [c0, c1], .v (.n .i64 (D [c0, c1])))
  | _ => none
noncomputable def o_tw2 (B : PV) (s b0 b1 : Int) (ok : List Int → Bool) : List PV → Option (Bool × Ret) := fun ps => match ps with
  | [.l [[.n .i64 c0], [.n .i64 c1]], b, .n .i64 s1, .n .i64 d] => some (gEq (.t [b, .n .i64 s1]) (.t [B, .n .i64 s]) && ok [c0, c1], .v (.l [[.n .i64 (nx1 s d c0 b0)], [.n .i64 (nx1 s d c1 b1)]]))
  | _ => none
noncomputable def o_pj2 (R : PV) (ok : List Int → Bool) : List PV → Option (Bool × Ret) := fun ps => match ps with
  | [r, l, .l [[.n .i64 c0], [.n .i64 c1]], .n .i64 q] => some (gEq (.t [r, l, .n .i64 q]) (.t [R, .l [], .n .i64 0]) && ok [c0, c1], .v (.t [.l [[.n .i64 c0], [.n .i64 c1]], .n .i64 0, .b true]))
  | _ => none
theorem ok_in2 {R : PV} {ok : List Int → Bool} (h : ∀ c : List Int, c.length = 2 → ok c = true → SndA1 Tryz.prog 47 [R, intsP c] (.v (.b true))) : OneOk Tryz.prog 47 (o_in2 R ok) := by
  intro ps r hh
  unfold o_in2 at hh
  split at hh
  · simp only [Option.some.injEq, Prod.mk.injEq, Bool.and_eq_true] at hh
    obtain ⟨⟨hg, hk⟩, rfl⟩ := hh
    have hg := gEq_eq hg
    obtain rfl := hg
    exact h [_, _] rfl hk
  · cases hh
theorem ok_ds2 {R B : PV} {ok : List Int → Bool} {D : List Int → Int} (h : ∀ c : List Int, c.length = 2 → ok c = true → SndA1 Tryz.prog 63 [R, intsP c, B] (.v (.n .i64 (D c)))) : OneOk Tryz.prog 63 (o_ds2 R B ok D) := by
  intro ps r hh
  unfold o_ds2 at hh
  split at hh
  · simp only [Option.some.injEq, Prod.mk.injEq, Bool.and_eq_true] at hh
    obtain ⟨⟨hg, hk⟩, rfl⟩ := hh
    have hg := gEq_eq hg
    simp only [PV.t.injEq, List.cons.injEq, and_true] at hg
    obtain ⟨rfl, rfl⟩ := hg
    exact h [_, _] rfl hk
  · cases hh
theorem ok_tw2 {B : PV} {s b0 b1 : Int} {ok : List Int → Bool} (h : ∀ (c : List Int) (d : Int), c.length = 2 → ok c = true → SndA1 Tryz.prog 64 [intsP c, B, .n .i64 s, .n .i64 d] (.v (intsP (nxs s d c [b0, b1])))) : OneOk Tryz.prog 64 (o_tw2 B s b0 b1 ok) := by
  intro ps r hh
  unfold o_tw2 at hh
  split at hh
  · simp only [Option.some.injEq, Prod.mk.injEq, Bool.and_eq_true] at hh
    obtain ⟨⟨hg, hk⟩, rfl⟩ := hh
    have hg := gEq_eq hg
    simp only [PV.t.injEq, List.cons.injEq, and_true, PV.n.injEq, true_and] at hg
    obtain ⟨rfl, rfl⟩ := hg
    exact h [_, _] _ rfl hk
  · cases hh
theorem ok_pj2 {R : PV} {ok : List Int → Bool} (h : ∀ c : List Int, c.length = 2 → ok c = true → SndA1 Tryz.prog 22 [R, .l [], intsP c, .n .i64 0] (.v (.t [intsP c, .n .i64 0, .b true]))) : OneOk Tryz.prog 22 (o_pj2 R ok) := by
  intro ps r hh
  unfold o_pj2 at hh
  split at hh
  · simp only [Option.some.injEq, Prod.mk.injEq, Bool.and_eq_true] at hh
    obtain ⟨⟨hg, hk⟩, rfl⟩ := hh
    have hg := gEq_eq hg
    simp only [PV.t.injEq, List.cons.injEq, and_true, PV.n.injEq, true_and] at hg
    obtain ⟨rfl, rfl, rfl⟩ := hg
    exact h [_, _] rfl hk
  · cases hh
noncomputable def lo2 (R1 R2 BX : List (List PV)) (s a0 a1 b0 b1 : Int) (ok : List Int → Bool) (D : List Int → Int) : OrL := [(40, o_cr [.a [.l R1, .l R2], .l []] (.v (.b true))), (47, o_in2 (.a [.l R1, .l R2]) ok), (49, o_cr [intsP [a0, a1]] (.v (.l BX))), (19, o_cr [.a [.l R1, .l R2], .l [], .l BX] (.v (.b true))), (63, o_ds2 (.a [.l R1, .l R2]) (intsP [b0, b1]) ok D), (64, o_tw2 (intsP [b0, b1]) s b0 b1 ok), (22, o_pj2 (.a [.l R1, .l R2]) ok)]
set_option maxRecDepth 100000 in
theorem rd2 (G : St → Option (Ret × Mem)) (K : Cont) (R1 R2 BX rows : List (List PV)) (s a0 a1 b0 b1 c0 c1 : Int) (ok : List Int → Bool) (D : List Int → Int) : runCK 300 (cxF T (OrL.k (lo2 R1 R2 BX s a0 a1 b0 b1 ok D)) 300 33 (ntmF T 33)) (ckF T (OrL.k (lo2 R1 R2 BX s a0 a1 b0 b1 ok D)) 300) (loopAt T 33 [0, 1, 1, 1, 1, 1]) (fun e τ => match e with
  | .normal => G (prune ((cxF T (OrL.k (lo2 R1 R2 BX s a0 a1 b0 b1 ok D)) 300 33 (ntmF T 33)).T.hint (cxF T (OrL.k (lo2 R1 R2 BX s a0 a1 b0 b1 ok D)) 300 33 (ntmF T 33)).me (firstR (loopAt T 33 [0, 1, 1, 1, 1, 1]))) τ)
  | e => K e τ) (hd R1 R2 rows s [b0, b1] [c0, c1]) =
 (bif (g1 [.a [.l R1, .l R2], intsP [b0, b1]] && ok [c0, c1]) then (bif (decide ((D [c0, c1]) = 0)) then (K .ret (out0 R1 R2 rows s [b0, b1] [c0, c1] D))
 else (bif (decide (200 ≤ (rows.length : Int))) then (K .ret (out1 R1 R2 rows s [b0, b1] [c0, c1] D))
 else (bif (g1 [intsP [b0, b1], .n .i64 s] && ok [c0, c1]) then (bif (g1 [.a [.l R1, .l R2], .l [], .n .i64 0] && ok (nxs s (D [c0, c1]) [c0, c1] [b0, b1])) then (bif (g1 [.a [.l R1, .l R2], intsP [b0, b1]] && ok (nxs s (D [c0, c1]) [c0, c1] [b0, b1])) then (bif (decide ((D [c0, c1]) ≤ (D (nxs s (D [c0, c1]) [c0, c1] [b0, b1])))) then (K .ret (out2 R1 R2 rows s [b0, b1] [c0, c1] D))
 else (bif (decide (rows.length + 1 ≤ 1000000)) then (G (hd R1 R2 (rows ++ [[intsP (nxs s (D [c0, c1]) [c0, c1] [b0, b1])]]) s [b0, b1] (nxs s (D [c0, c1]) [c0, c1] [b0, b1])))
 else none))
 else none)
 else none)
 else none)))
 else none) := by kernel_rfl
theorem lp2 (K : Cont) (R1 R2 BX : List (List PV)) (s a0 a1 b0 b1 : Int) (ok : List Int → Bool) (D : List Int → Int) : ∀ (k : Nat) (c : List Int) (rows : List (List PV)) (m : Nat), c.length = 2 → Goes ok D s [b0, b1] k c → rows.length + k < 200 → k < m →
    LF 300 (cxF T (OrL.k (lo2 R1 R2 BX s a0 a1 b0 b1 ok D)) 300 33 (ntmF T 33)) (ckF T (OrL.k (lo2 R1 R2 BX s a0 a1 b0 b1 ok D)) 300) (loopAt T 33 [0, 1, 1, 1, 1, 1]) ((cxF T (OrL.k (lo2 R1 R2 BX s a0 a1 b0 b1 ok D)) 300 33 (ntmF T 33)).T.hint (cxF T (OrL.k (lo2 R1 R2 BX s a0 a1 b0 b1 ok D)) 300 33 (ntmF T 33)).me (firstR (loopAt T 33 [0, 1, 1, 1, 1, 1]))) K m (hd R1 R2 rows s [b0, b1] c) = K .ret (out0 R1 R2 (rows ++ (path D s [b0, b1] k c).map fun v => [intsP v]) s [b0, b1] (fin D s [b0, b1] k c) D)
  | 0, c, rows, m + 1, hc, hg, hr, hm => by
    obtain ⟨c0, c1, rfl⟩ := l2 hc
    refine (rd2 (fun σ => LF 300 (cxF T (OrL.k (lo2 R1 R2 BX s a0 a1 b0 b1 ok D)) 300 33 (ntmF T 33)) (ckF T (OrL.k (lo2 R1 R2 BX s a0 a1 b0 b1 ok D)) 300) (loopAt T 33 [0, 1, 1, 1, 1, 1]) ((cxF T (OrL.k (lo2 R1 R2 BX s a0 a1 b0 b1 ok D)) 300 33 (ntmF T 33)).T.hint (cxF T (OrL.k (lo2 R1 R2 BX s a0 a1 b0 b1 ok D)) 300 33 (ntmF T 33)).me (firstR (loopAt T 33 [0, 1, 1, 1, 1, 1]))) K m σ) K R1 R2 BX rows s a0 a1 b0 b1 c0 c1 ok D).trans ?_
    rw [hg.1, decide_eq_true hg.2]
    simp only [g1_t, cond_true, Bool.and_true, path, fin, List.map_nil, List.append_nil]
  | k + 1, c, rows, m + 1, hc, hg, hr, hm => by
    obtain ⟨c0, c1, rfl⟩ := l2 hc
    obtain ⟨h1, h2, h3, h4⟩ := hg
    refine (rd2 (fun σ => LF 300 (cxF T (OrL.k (lo2 R1 R2 BX s a0 a1 b0 b1 ok D)) 300 33 (ntmF T 33)) (ckF T (OrL.k (lo2 R1 R2 BX s a0 a1 b0 b1 ok D)) 300) (loopAt T 33 [0, 1, 1, 1, 1, 1]) ((cxF T (OrL.k (lo2 R1 R2 BX s a0 a1 b0 b1 ok D)) 300 33 (ntmF T 33)).T.hint (cxF T (OrL.k (lo2 R1 R2 BX s a0 a1 b0 b1 ok D)) 300 33 (ntmF T 33)).me (firstR (loopAt T 33 [0, 1, 1, 1, 1, 1]))) K m σ) K R1 R2 BX rows s a0 a1 b0 b1 c0 c1 ok D).trans ?_
    rw [h1, decide_eq_false h2, decide_eq_false (show ¬ (200 : Int) ≤ (rows.length : Int) by omega), Goes.ok h4, decide_eq_false (show ¬ D [c0, c1] ≤ D (nxs s (D [c0, c1]) [c0, c1] [b0, b1]) by omega), decide_eq_true (show rows.length + 1 ≤ 1000000 by omega)]
    simp only [g1_t, cond_true, cond_false, Bool.and_true]
    rw [lp2 K R1 R2 BX s a0 a1 b0 b1 ok D k _ _ m (by simp [nxs]) h4 (by simp; omega) (by omega)]
    simp only [path, fin, List.map_cons, List.append_assoc, List.cons_append, List.nil_append]
set_option maxRecDepth 100000 in
theorem px2 (R1 R2 BX rf : List (List PV)) (s a0 a1 b0 b1 : Int) (ok : List Int → Bool) (D : List Int → Int) (cf : List Int) : runKL T (OrL.k (lo2 R1 R2 BX s a0 a1 b0 b1 ok D)) (loopsL [([0, 1, 1, 1, 1, 1], sumAt (hd R1 R2 [[intsP [a0, a1]]] s [b0, b1] [a0, a1]) (fun K => K .ret (out0 R1 R2 rf s [b0, b1] cf D)))]) 300 33 [.a [.l R1, .l R2], .l [], intsP [a0, a1], intsP [b0, b1], .n .i64 s, .n .i64 0, .n .i64 200] =
 (bif (g1 [.a [.l R1, .l R2], .l []]) then (bif (gEq (.a [.l R1, .l R2]) (.a [.l R1, .l R2]) && ok [a0, a1]) then (bif (gEq (.a [.l R1, .l R2]) (.a [.l R1, .l R2]) && ok [b0, b1]) then (bif (g1 [intsP [a0, a1]]) then (bif (g1 [.a [.l R1, .l R2], .l [], .l BX]) then (bif (decide (s < 1)) then some (.v (.t [.l [], .n .i64 0]), [])
 else (bif (decide (1073741824 < s)) then some (.v (.t [.l [], .n .i64 0]), [])
 else (bif gSt (hd R1 R2 [[intsP [a0, a1]]] s [b0, b1] [a0, a1]) (hd R1 R2 [[intsP [a0, a1]]] s [b0, b1] [a0, a1]) then some (.v (.t [.l rf, .n .i64 1]), []) else none)))
 else none)
 else none)
 else none)
 else none)
 else none) := by kernel_rfl
theorem snd_ext2 {R1 R2 BX : List (List PV)} {s a0 a1 b0 b1 : Int} {ok : List Int → Bool} {D : List Int → Int} (k : Nat) (hs : 1 ≤ s ∧ s ≤ 1073741824) (hb : ok [b0, b1] = true) (hg : Goes ok D s [b0, b1] k [a0, a1]) (hk : k < 199)
    (h1 : SndA1 Tryz.prog 40 [.a [.l R1, .l R2], .l []] (.v (.b true))) (h2 : ∀ c : List Int, c.length = 2 → ok c = true → SndA1 Tryz.prog 47 [.a [.l R1, .l R2], intsP c] (.v (.b true))) (h3 : SndA1 Tryz.prog 49 [intsP [a0, a1]] (.v (.l BX))) (h4 : SndA1 Tryz.prog 19 [.a [.l R1, .l R2], .l [], .l BX] (.v (.b true)))
    (h5 : ∀ c : List Int, c.length = 2 → ok c = true → SndA1 Tryz.prog 63 [.a [.l R1, .l R2], intsP c, intsP [b0, b1]] (.v (.n .i64 (D c)))) (h6 : ∀ (c : List Int) (d : Int), c.length = 2 → ok c = true → SndA1 Tryz.prog 64 [intsP c, intsP [b0, b1], .n .i64 s, .n .i64 d] (.v (intsP (nxs s d c [b0, b1]))))
    (h7 : ∀ c : List Int, c.length = 2 → ok c = true → SndA1 Tryz.prog 22 [.a [.l R1, .l R2], .l [], intsP c, .n .i64 0] (.v (.t [intsP c, .n .i64 0, .b true]))) :
    SndA1 Tryz.prog 33 [.a [.l R1, .l R2], .l [], intsP [a0, a1], intsP [b0, b1], .n .i64 s, .n .i64 0, .n .i64 200] (.v (.t [.l (([a0, a1] :: path D s [b0, b1] k [a0, a1]).map fun v => [intsP v]), .n .i64 1])) := by
  refine runKL_sound (N := 300) (LO := loopsL [([0, 1, 1, 1, 1, 1], sumAt (hd R1 R2 [[intsP [a0, a1]]] s [b0, b1] [a0, a1]) (fun K => K .ret (out0 R1 R2 (([a0, a1] :: path D s [b0, b1] k [a0, a1]).map fun v => [intsP v]) s [b0, b1] (fin D s [b0, b1] k [a0, a1]) D)))]) tabOk mixed (OrL.ok (l := lo2 R1 R2 BX s a0 a1 b0 b1 ok D) ⟨ok_cr h1, ok_in2 h2, ok_cr h3, ok_cr h4, ok_ds2 h5, ok_tw2 h6, ok_pj2 h7, trivial⟩) (fun p S hp => ?_) ?_
  · refine loopsL_ok (L := loopAt T 33) (l := [([0, 1, 1, 1, 1, 1], sumAt (hd R1 R2 [[intsP [a0, a1]]] s [b0, b1] [a0, a1]) (fun K => K .ret (out0 R1 R2 (([a0, a1] :: path D s [b0, b1] k [a0, a1]).map fun v => [intsP v]) s [b0, b1] (fin D s [b0, b1] k [a0, a1]) D)))]) (show AllP _ [([0, 1, 1, 1, 1, 1], sumAt (hd R1 R2 [[intsP [a0, a1]]] s [b0, b1] [a0, a1]) (fun K => K .ret (out0 R1 R2 (([a0, a1] :: path D s [b0, b1] k [a0, a1]).map fun v => [intsP v]) s [b0, b1] (fin D s [b0, b1] k [a0, a1]) D)))] from ⟨sumAt_ok fun K r hr => ?_, trivial⟩) p S hp
    have := lp2 K R1 R2 BX s a0 a1 b0 b1 ok D k [a0, a1] [[intsP [a0, a1]]] 300 rfl hg (by simp; omega) (by omega)
    exact this.trans hr
  · refine (px2 R1 R2 BX _ s a0 a1 b0 b1 ok D _).trans ?_
    simp only [g1_t, uY, gSt_self, Goes.ok hg, hb, cond_true, Bool.and_true, decide_eq_false (show ¬ s < 1 by omega), decide_eq_false (show ¬ 1073741824 < s by omega), cond_false]
noncomputable def o_in3 (R : PV) (ok : List Int → Bool) : List PV → Option (Bool × Ret) := fun ps => match ps with
  | [r, .l [[.n .i64 c0], [.n .i64 c1], [.n .i64 c2]]] => some (gEq r R && ok [c0, c1, c2], .v (.b true))
  | _ => none
noncomputable def o_ds3 (R B : PV) (ok : List Int → Bool) (D : List Int → Int) : List PV → Option (Bool × Ret) := fun ps => match ps with
  | [r, .l [[.n .i64 c0], [.n .i64 c1], [.n .i64 c2]], b] => some (gEq (.t [r, b]) (.t [R, B]) && ok [c0, c1, c2], .v (.n .i64 (D [c0, c1, c2])))
  | _ => none
noncomputable def o_tw3 (B : PV) (s b0 b1 b2 : Int) (ok : List Int → Bool) : List PV → Option (Bool × Ret) := fun ps => match ps with
  | [.l [[.n .i64 c0], [.n .i64 c1], [.n .i64 c2]], b, .n .i64 s1, .n .i64 d] => some (gEq (.t [b, .n .i64 s1]) (.t [B, .n .i64 s]) && ok [c0, c1, c2], .v (.l [[.n .i64 (nx1 s d c0 b0)], [.n .i64 (nx1 s d c1 b1)], [.n .i64 (nx1 s d c2 b2)]]))
  | _ => none
noncomputable def o_pj3 (R : PV) (ok : List Int → Bool) : List PV → Option (Bool × Ret) := fun ps => match ps with
  | [r, l, .l [[.n .i64 c0], [.n .i64 c1], [.n .i64 c2]], .n .i64 q] => some (gEq (.t [r, l, .n .i64 q]) (.t [R, .l [], .n .i64 0]) && ok [c0, c1, c2], .v (.t [.l [[.n .i64 c0], [.n .i64 c1], [.n .i64 c2]], .n .i64 0, .b true]))
  | _ => none
theorem ok_in3 {R : PV} {ok : List Int → Bool} (h : ∀ c : List Int, c.length = 3 → ok c = true → SndA1 Tryz.prog 47 [R, intsP c] (.v (.b true))) : OneOk Tryz.prog 47 (o_in3 R ok) := by
  intro ps r hh
  unfold o_in3 at hh
  split at hh
  · simp only [Option.some.injEq, Prod.mk.injEq, Bool.and_eq_true] at hh
    obtain ⟨⟨hg, hk⟩, rfl⟩ := hh
    have hg := gEq_eq hg
    obtain rfl := hg
    exact h [_, _, _] rfl hk
  · cases hh
theorem ok_ds3 {R B : PV} {ok : List Int → Bool} {D : List Int → Int} (h : ∀ c : List Int, c.length = 3 → ok c = true → SndA1 Tryz.prog 63 [R, intsP c, B] (.v (.n .i64 (D c)))) : OneOk Tryz.prog 63 (o_ds3 R B ok D) := by
  intro ps r hh
  unfold o_ds3 at hh
  split at hh
  · simp only [Option.some.injEq, Prod.mk.injEq, Bool.and_eq_true] at hh
    obtain ⟨⟨hg, hk⟩, rfl⟩ := hh
    have hg := gEq_eq hg
    simp only [PV.t.injEq, List.cons.injEq, and_true] at hg
    obtain ⟨rfl, rfl⟩ := hg
    exact h [_, _, _] rfl hk
  · cases hh
theorem ok_tw3 {B : PV} {s b0 b1 b2 : Int} {ok : List Int → Bool} (h : ∀ (c : List Int) (d : Int), c.length = 3 → ok c = true → SndA1 Tryz.prog 64 [intsP c, B, .n .i64 s, .n .i64 d] (.v (intsP (nxs s d c [b0, b1, b2])))) : OneOk Tryz.prog 64 (o_tw3 B s b0 b1 b2 ok) := by
  intro ps r hh
  unfold o_tw3 at hh
  split at hh
  · simp only [Option.some.injEq, Prod.mk.injEq, Bool.and_eq_true] at hh
    obtain ⟨⟨hg, hk⟩, rfl⟩ := hh
    have hg := gEq_eq hg
    simp only [PV.t.injEq, List.cons.injEq, and_true, PV.n.injEq, true_and] at hg
    obtain ⟨rfl, rfl⟩ := hg
    exact h [_, _, _] _ rfl hk
  · cases hh
theorem ok_pj3 {R : PV} {ok : List Int → Bool} (h : ∀ c : List Int, c.length = 3 → ok c = true → SndA1 Tryz.prog 22 [R, .l [], intsP c, .n .i64 0] (.v (.t [intsP c, .n .i64 0, .b true]))) : OneOk Tryz.prog 22 (o_pj3 R ok) := by
  intro ps r hh
  unfold o_pj3 at hh
  split at hh
  · simp only [Option.some.injEq, Prod.mk.injEq, Bool.and_eq_true] at hh
    obtain ⟨⟨hg, hk⟩, rfl⟩ := hh
    have hg := gEq_eq hg
    simp only [PV.t.injEq, List.cons.injEq, and_true, PV.n.injEq, true_and] at hg
    obtain ⟨rfl, rfl, rfl⟩ := hg
    exact h [_, _, _] rfl hk
  · cases hh
noncomputable def lo3 (R1 R2 BX : List (List PV)) (s a0 a1 a2 b0 b1 b2 : Int) (ok : List Int → Bool) (D : List Int → Int) : OrL := [(40, o_cr [.a [.l R1, .l R2], .l []] (.v (.b true))), (47, o_in3 (.a [.l R1, .l R2]) ok), (49, o_cr [intsP [a0, a1, a2]] (.v (.l BX))), (19, o_cr [.a [.l R1, .l R2], .l [], .l BX] (.v (.b true))), (63, o_ds3 (.a [.l R1, .l R2]) (intsP [b0, b1, b2]) ok D), (64, o_tw3 (intsP [b0, b1, b2]) s b0 b1 b2 ok), (22, o_pj3 (.a [.l R1, .l R2]) ok)]
set_option maxRecDepth 100000 in
theorem rd3 (G : St → Option (Ret × Mem)) (K : Cont) (R1 R2 BX rows : List (List PV)) (s a0 a1 a2 b0 b1 b2 c0 c1 c2 : Int) (ok : List Int → Bool) (D : List Int → Int) : runCK 300 (cxF T (OrL.k (lo3 R1 R2 BX s a0 a1 a2 b0 b1 b2 ok D)) 300 33 (ntmF T 33)) (ckF T (OrL.k (lo3 R1 R2 BX s a0 a1 a2 b0 b1 b2 ok D)) 300) (loopAt T 33 [0, 1, 1, 1, 1, 1]) (fun e τ => match e with
  | .normal => G (prune ((cxF T (OrL.k (lo3 R1 R2 BX s a0 a1 a2 b0 b1 b2 ok D)) 300 33 (ntmF T 33)).T.hint (cxF T (OrL.k (lo3 R1 R2 BX s a0 a1 a2 b0 b1 b2 ok D)) 300 33 (ntmF T 33)).me (firstR (loopAt T 33 [0, 1, 1, 1, 1, 1]))) τ)
  | e => K e τ) (hd R1 R2 rows s [b0, b1, b2] [c0, c1, c2]) =
 (bif (g1 [.a [.l R1, .l R2], intsP [b0, b1, b2]] && ok [c0, c1, c2]) then (bif (decide ((D [c0, c1, c2]) = 0)) then (K .ret (out0 R1 R2 rows s [b0, b1, b2] [c0, c1, c2] D))
 else (bif (decide (200 ≤ (rows.length : Int))) then (K .ret (out1 R1 R2 rows s [b0, b1, b2] [c0, c1, c2] D))
 else (bif (g1 [intsP [b0, b1, b2], .n .i64 s] && ok [c0, c1, c2]) then (bif (g1 [.a [.l R1, .l R2], .l [], .n .i64 0] && ok (nxs s (D [c0, c1, c2]) [c0, c1, c2] [b0, b1, b2])) then (bif (g1 [.a [.l R1, .l R2], intsP [b0, b1, b2]] && ok (nxs s (D [c0, c1, c2]) [c0, c1, c2] [b0, b1, b2])) then (bif (decide ((D [c0, c1, c2]) ≤ (D (nxs s (D [c0, c1, c2]) [c0, c1, c2] [b0, b1, b2])))) then (K .ret (out2 R1 R2 rows s [b0, b1, b2] [c0, c1, c2] D))
 else (bif (decide (rows.length + 1 ≤ 1000000)) then (G (hd R1 R2 (rows ++ [[intsP (nxs s (D [c0, c1, c2]) [c0, c1, c2] [b0, b1, b2])]]) s [b0, b1, b2] (nxs s (D [c0, c1, c2]) [c0, c1, c2] [b0, b1, b2])))
 else none))
 else none)
 else none)
 else none)))
 else none) := by kernel_rfl
theorem lp3 (K : Cont) (R1 R2 BX : List (List PV)) (s a0 a1 a2 b0 b1 b2 : Int) (ok : List Int → Bool) (D : List Int → Int) : ∀ (k : Nat) (c : List Int) (rows : List (List PV)) (m : Nat), c.length = 3 → Goes ok D s [b0, b1, b2] k c → rows.length + k < 200 → k < m →
    LF 300 (cxF T (OrL.k (lo3 R1 R2 BX s a0 a1 a2 b0 b1 b2 ok D)) 300 33 (ntmF T 33)) (ckF T (OrL.k (lo3 R1 R2 BX s a0 a1 a2 b0 b1 b2 ok D)) 300) (loopAt T 33 [0, 1, 1, 1, 1, 1]) ((cxF T (OrL.k (lo3 R1 R2 BX s a0 a1 a2 b0 b1 b2 ok D)) 300 33 (ntmF T 33)).T.hint (cxF T (OrL.k (lo3 R1 R2 BX s a0 a1 a2 b0 b1 b2 ok D)) 300 33 (ntmF T 33)).me (firstR (loopAt T 33 [0, 1, 1, 1, 1, 1]))) K m (hd R1 R2 rows s [b0, b1, b2] c) = K .ret (out0 R1 R2 (rows ++ (path D s [b0, b1, b2] k c).map fun v => [intsP v]) s [b0, b1, b2] (fin D s [b0, b1, b2] k c) D)
  | 0, c, rows, m + 1, hc, hg, hr, hm => by
    obtain ⟨c0, c1, c2, rfl⟩ := l3 hc
    refine (rd3 (fun σ => LF 300 (cxF T (OrL.k (lo3 R1 R2 BX s a0 a1 a2 b0 b1 b2 ok D)) 300 33 (ntmF T 33)) (ckF T (OrL.k (lo3 R1 R2 BX s a0 a1 a2 b0 b1 b2 ok D)) 300) (loopAt T 33 [0, 1, 1, 1, 1, 1]) ((cxF T (OrL.k (lo3 R1 R2 BX s a0 a1 a2 b0 b1 b2 ok D)) 300 33 (ntmF T 33)).T.hint (cxF T (OrL.k (lo3 R1 R2 BX s a0 a1 a2 b0 b1 b2 ok D)) 300 33 (ntmF T 33)).me (firstR (loopAt T 33 [0, 1, 1, 1, 1, 1]))) K m σ) K R1 R2 BX rows s a0 a1 a2 b0 b1 b2 c0 c1 c2 ok D).trans ?_
    rw [hg.1, decide_eq_true hg.2]
    simp only [g1_t, cond_true, Bool.and_true, path, fin, List.map_nil, List.append_nil]
  | k + 1, c, rows, m + 1, hc, hg, hr, hm => by
    obtain ⟨c0, c1, c2, rfl⟩ := l3 hc
    obtain ⟨h1, h2, h3, h4⟩ := hg
    refine (rd3 (fun σ => LF 300 (cxF T (OrL.k (lo3 R1 R2 BX s a0 a1 a2 b0 b1 b2 ok D)) 300 33 (ntmF T 33)) (ckF T (OrL.k (lo3 R1 R2 BX s a0 a1 a2 b0 b1 b2 ok D)) 300) (loopAt T 33 [0, 1, 1, 1, 1, 1]) ((cxF T (OrL.k (lo3 R1 R2 BX s a0 a1 a2 b0 b1 b2 ok D)) 300 33 (ntmF T 33)).T.hint (cxF T (OrL.k (lo3 R1 R2 BX s a0 a1 a2 b0 b1 b2 ok D)) 300 33 (ntmF T 33)).me (firstR (loopAt T 33 [0, 1, 1, 1, 1, 1]))) K m σ) K R1 R2 BX rows s a0 a1 a2 b0 b1 b2 c0 c1 c2 ok D).trans ?_
    rw [h1, decide_eq_false h2, decide_eq_false (show ¬ (200 : Int) ≤ (rows.length : Int) by omega), Goes.ok h4, decide_eq_false (show ¬ D [c0, c1, c2] ≤ D (nxs s (D [c0, c1, c2]) [c0, c1, c2] [b0, b1, b2]) by omega), decide_eq_true (show rows.length + 1 ≤ 1000000 by omega)]
    simp only [g1_t, cond_true, cond_false, Bool.and_true]
    rw [lp3 K R1 R2 BX s a0 a1 a2 b0 b1 b2 ok D k _ _ m (by simp [nxs]) h4 (by simp; omega) (by omega)]
    simp only [path, fin, List.map_cons, List.append_assoc, List.cons_append, List.nil_append]
set_option maxRecDepth 100000 in
theorem px3 (R1 R2 BX rf : List (List PV)) (s a0 a1 a2 b0 b1 b2 : Int) (ok : List Int → Bool) (D : List Int → Int) (cf : List Int) : runKL T (OrL.k (lo3 R1 R2 BX s a0 a1 a2 b0 b1 b2 ok D)) (loopsL [([0, 1, 1, 1, 1, 1], sumAt (hd R1 R2 [[intsP [a0, a1, a2]]] s [b0, b1, b2] [a0, a1, a2]) (fun K => K .ret (out0 R1 R2 rf s [b0, b1, b2] cf D)))]) 300 33 [.a [.l R1, .l R2], .l [], intsP [a0, a1, a2], intsP [b0, b1, b2], .n .i64 s, .n .i64 0, .n .i64 200] =
 (bif (g1 [.a [.l R1, .l R2], .l []]) then (bif (gEq (.a [.l R1, .l R2]) (.a [.l R1, .l R2]) && ok [a0, a1, a2]) then (bif (gEq (.a [.l R1, .l R2]) (.a [.l R1, .l R2]) && ok [b0, b1, b2]) then (bif (g1 [intsP [a0, a1, a2]]) then (bif (g1 [.a [.l R1, .l R2], .l [], .l BX]) then (bif (decide (s < 1)) then some (.v (.t [.l [], .n .i64 0]), [])
 else (bif (decide (1073741824 < s)) then some (.v (.t [.l [], .n .i64 0]), [])
 else (bif gSt (hd R1 R2 [[intsP [a0, a1, a2]]] s [b0, b1, b2] [a0, a1, a2]) (hd R1 R2 [[intsP [a0, a1, a2]]] s [b0, b1, b2] [a0, a1, a2]) then some (.v (.t [.l rf, .n .i64 1]), []) else none)))
 else none)
 else none)
 else none)
 else none)
 else none) := by kernel_rfl
theorem snd_ext3 {R1 R2 BX : List (List PV)} {s a0 a1 a2 b0 b1 b2 : Int} {ok : List Int → Bool} {D : List Int → Int} (k : Nat) (hs : 1 ≤ s ∧ s ≤ 1073741824) (hb : ok [b0, b1, b2] = true) (hg : Goes ok D s [b0, b1, b2] k [a0, a1, a2]) (hk : k < 199)
    (h1 : SndA1 Tryz.prog 40 [.a [.l R1, .l R2], .l []] (.v (.b true))) (h2 : ∀ c : List Int, c.length = 3 → ok c = true → SndA1 Tryz.prog 47 [.a [.l R1, .l R2], intsP c] (.v (.b true))) (h3 : SndA1 Tryz.prog 49 [intsP [a0, a1, a2]] (.v (.l BX))) (h4 : SndA1 Tryz.prog 19 [.a [.l R1, .l R2], .l [], .l BX] (.v (.b true)))
    (h5 : ∀ c : List Int, c.length = 3 → ok c = true → SndA1 Tryz.prog 63 [.a [.l R1, .l R2], intsP c, intsP [b0, b1, b2]] (.v (.n .i64 (D c)))) (h6 : ∀ (c : List Int) (d : Int), c.length = 3 → ok c = true → SndA1 Tryz.prog 64 [intsP c, intsP [b0, b1, b2], .n .i64 s, .n .i64 d] (.v (intsP (nxs s d c [b0, b1, b2]))))
    (h7 : ∀ c : List Int, c.length = 3 → ok c = true → SndA1 Tryz.prog 22 [.a [.l R1, .l R2], .l [], intsP c, .n .i64 0] (.v (.t [intsP c, .n .i64 0, .b true]))) :
    SndA1 Tryz.prog 33 [.a [.l R1, .l R2], .l [], intsP [a0, a1, a2], intsP [b0, b1, b2], .n .i64 s, .n .i64 0, .n .i64 200] (.v (.t [.l (([a0, a1, a2] :: path D s [b0, b1, b2] k [a0, a1, a2]).map fun v => [intsP v]), .n .i64 1])) := by
  refine runKL_sound (N := 300) (LO := loopsL [([0, 1, 1, 1, 1, 1], sumAt (hd R1 R2 [[intsP [a0, a1, a2]]] s [b0, b1, b2] [a0, a1, a2]) (fun K => K .ret (out0 R1 R2 (([a0, a1, a2] :: path D s [b0, b1, b2] k [a0, a1, a2]).map fun v => [intsP v]) s [b0, b1, b2] (fin D s [b0, b1, b2] k [a0, a1, a2]) D)))]) tabOk mixed (OrL.ok (l := lo3 R1 R2 BX s a0 a1 a2 b0 b1 b2 ok D) ⟨ok_cr h1, ok_in3 h2, ok_cr h3, ok_cr h4, ok_ds3 h5, ok_tw3 h6, ok_pj3 h7, trivial⟩) (fun p S hp => ?_) ?_
  · refine loopsL_ok (L := loopAt T 33) (l := [([0, 1, 1, 1, 1, 1], sumAt (hd R1 R2 [[intsP [a0, a1, a2]]] s [b0, b1, b2] [a0, a1, a2]) (fun K => K .ret (out0 R1 R2 (([a0, a1, a2] :: path D s [b0, b1, b2] k [a0, a1, a2]).map fun v => [intsP v]) s [b0, b1, b2] (fin D s [b0, b1, b2] k [a0, a1, a2]) D)))]) (show AllP _ [([0, 1, 1, 1, 1, 1], sumAt (hd R1 R2 [[intsP [a0, a1, a2]]] s [b0, b1, b2] [a0, a1, a2]) (fun K => K .ret (out0 R1 R2 (([a0, a1, a2] :: path D s [b0, b1, b2] k [a0, a1, a2]).map fun v => [intsP v]) s [b0, b1, b2] (fin D s [b0, b1, b2] k [a0, a1, a2]) D)))] from ⟨sumAt_ok fun K r hr => ?_, trivial⟩) p S hp
    have := lp3 K R1 R2 BX s a0 a1 a2 b0 b1 b2 ok D k [a0, a1, a2] [[intsP [a0, a1, a2]]] 300 rfl hg (by simp; omega) (by omega)
    exact this.trans hr
  · refine (px3 R1 R2 BX _ s a0 a1 a2 b0 b1 b2 ok D _).trans ?_
    simp only [g1_t, uY, gSt_self, Goes.ok hg, hb, cond_true, Bool.and_true, decide_eq_false (show ¬ s < 1 by omega), decide_eq_false (show ¬ 1073741824 < s by omega), cond_false]
end Go.Proofs.YtnlnbnjnapofmaaGreat.Pe

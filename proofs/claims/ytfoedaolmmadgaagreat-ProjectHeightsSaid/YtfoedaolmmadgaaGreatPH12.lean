/- Part 12 of the texts behind the last one: rules and contracts. No condition. -/
import Derived.Test.YtfoedaolmmadgaaGreatPH11
namespace Go.Proofs.YtfoedaolmmadgaaGreat
open Go.Rx Rt Go.Sx Go.RowKit
noncomputable def SL : PV := .a [.l [[.s (ByteArray.mk #[97]), .n .i64 4, .n .i64 (-1), .n .i64 0, .n .i64 0, .n .i64 0, .n .i64 0, .n .i64 4000, .n .i64 1, .n .i64 65536, .n .i64 65536, .n .i64 65536], [.s (ByteArray.mk #[98]), .n .i64 5, .n .i64 0, .n .i64 0, .n .i64 0, .n .i64 0, .n .i64 0, .n .i64 4000, .n .i64 1, .n .i64 65536, .n .i64 65536, .n .i64 65536]], .l []]
noncomputable def o_iOf : List PV → Option (Bool × Ret) := fun ps => match ps with
  | [.n .i64 x] => some (true, .v (.a (ivC (Iv.of x))))
  | _ => none
theorem ok_iOf : OneOk Tryz.prog 86 o_iOf := by
  intro ps r h
  unfold o_iOf at h
  split at h
  · simp only [Option.some.injEq, Prod.mk.injEq] at h
    obtain ⟨hg, rfl⟩ := h
    exact snd_of_rets (enters_of Tryz.func86 (by kernel_rfl) (by kernel_rfl)) rfl rfl (fun w => iOf _ w)
  · cases h
noncomputable def L1 : OrL := (86, o_iOf) :: ([] : OrL)
theorem L1_ok : AllP (fun x : Nat × (List PV → Option (Bool × Ret)) => OneOk Tryz.prog x.1 x.2) L1 := ⟨ok_iOf, trivial⟩
noncomputable def o_iValid : List PV → Option (Bool × Ret) := fun ps => match ps with
  | [.a a'] => (ivD a').bind fun a => some (true, .v (.b (Iv.valid a)))
  | _ => none
theorem ok_iValid : OneOk Tryz.prog 137 o_iValid := by
  intro ps r h
  unfold o_iValid at h
  split at h
  · simp only [Option.bind_eq_some_iff, Option.some.injEq, Prod.mk.injEq] at h
    obtain ⟨a, ha, hg, rfl⟩ := h
    rw [ivD_eq ha]
    exact snd_of_rets (enters_of Tryz.func137 (by kernel_rfl) (by kernel_rfl)) rfl rfl (fun w => iValid _ _ w)
  · cases h
noncomputable def L2 : OrL := (137, o_iValid) :: L1
theorem L2_ok : AllP (fun x : Nat × (List PV → Option (Bool × Ret)) => OneOk Tryz.prog x.1 x.2) L2 := ⟨ok_iValid, L1_ok⟩
noncomputable def o_iWithin : List PV → Option (Bool × Ret) := fun ps => match ps with
  | [.a a', .a b'] => (ivD a').bind fun a => (ivD b').bind fun b => some (true, .v (.b (Iv.within a b)))
  | _ => none
theorem ok_iWithin : OneOk Tryz.prog 71 o_iWithin := by
  intro ps r h
  unfold o_iWithin at h
  split at h
  · simp only [Option.bind_eq_some_iff, Option.some.injEq, Prod.mk.injEq] at h
    obtain ⟨a, ha, b, hb, hg, rfl⟩ := h
    rw [ivD_eq ha]
    rw [ivD_eq hb]
    exact snd_of_rets (enters_of Tryz.func71 (by kernel_rfl) (by kernel_rfl)) rfl rfl (fun w => iWithin _ _ _ _ w)
  · cases h
noncomputable def L3 : OrL := (71, o_iWithin) :: L2
theorem L3_ok : AllP (fun x : Nat × (List PV → Option (Bool × Ret)) => OneOk Tryz.prog x.1 x.2) L3 := ⟨ok_iWithin, L2_ok⟩
noncomputable def o_pCompose : List PV → Option (Bool × Ret) := fun ps => match ps with
  | [.a p', .a q'] => (poD p').bind fun p => (poD q').bind fun q => some (true, .v (.a (poC (Po.mul p q))))
  | _ => none
theorem ok_pCompose : OneOk Tryz.prog 141 o_pCompose := by
  intro ps r h
  unfold o_pCompose at h
  split at h
  · simp only [Option.bind_eq_some_iff, Option.some.injEq, Prod.mk.injEq] at h
    obtain ⟨p, hp, q, hq, hg, rfl⟩ := h
    rw [poD_eq hp]
    rw [poD_eq hq]
    exact snd_of_rets (enters_of Tryz.func141 (by kernel_rfl) (by kernel_rfl)) rfl rfl (fun w => pCompose _ _ _ _ _ _ _ _ _ _ _ _ _ _ _ _ _ _ _ _ _ _ _ _ _ _ _ _ _ _ _ _ _ _ _ _ _ _ _ _ _ _ _ _ _ _ _ _ w)
  · cases h
noncomputable def L4 : OrL := (141, o_pCompose) :: L3
theorem L4_ok : AllP (fun x : Nat × (List PV → Option (Bool × Ret)) => OneOk Tryz.prog x.1 x.2) L4 := ⟨ok_pCompose, L3_ok⟩
noncomputable def o_pApply : List PV → Option (Bool × Ret) := fun ps => match ps with
  | [.a p', .a v'] => (poD p').bind fun p => (v3D v').bind fun v => some (true, .v (.a (v3C (Po.app p v))))
  | _ => none
theorem ok_pApply : OneOk Tryz.prog 143 o_pApply := by
  intro ps r h
  unfold o_pApply at h
  split at h
  · simp only [Option.bind_eq_some_iff, Option.some.injEq, Prod.mk.injEq] at h
    obtain ⟨p, hp, v, hv, hg, rfl⟩ := h
    rw [poD_eq hp]
    rw [v3D_eq hv]
    exact snd_of_rets (enters_of Tryz.func143 (by kernel_rfl) (by kernel_rfl)) rfl rfl (fun w => pApply _ _ _ _ _ _ _ _ _ _ _ _ _ _ _ _ _ _ _ _ _ _ _ _ _ _ _ _ _ _ w)
  · cases h
noncomputable def L5 : OrL := (143, o_pApply) :: L4
theorem L5_ok : AllP (fun x : Nat × (List PV → Option (Bool × Ret)) => OneOk Tryz.prog x.1 x.2) L5 := ⟨ok_pApply, L4_ok⟩
noncomputable def o_mPoint : List PV → Option (Bool × Ret) := fun ps => match ps with
  | [.a z'] => (z3D z').bind fun z => some (true, .v (.a (v3C (V3.of z))))
  | _ => none
theorem ok_mPoint : OneOk Tryz.prog 75 o_mPoint := by
  intro ps r h
  unfold o_mPoint at h
  split at h
  · simp only [Option.bind_eq_some_iff, Option.some.injEq, Prod.mk.injEq] at h
    obtain ⟨z, hz, hg, rfl⟩ := h
    rw [z3D_eq hz]
    exact snd_of_rets (enters_of Tryz.func75 (by kernel_rfl) (by kernel_rfl)) rfl rfl (fun w => mPoint _ _ _ w)
  · cases h
noncomputable def L6 : OrL := (75, o_mPoint) :: L5
theorem L6_ok : AllP (fun x : Nat × (List PV → Option (Bool × Ret)) => OneOk Tryz.prog x.1 x.2) L6 := ⟨ok_mPoint, L5_ok⟩
noncomputable def o_kJoint : List PV → Option (Bool × Ret) := fun ps => match ps with
  | [.a [.s nm, .n .i64 kind, .n .i64 par, .n .i64 ox, .n .i64 oy, .n .i64 oz, .n .i64 jlo, .n .i64 jhi, .n .i64 we, .n .i64 spd, .n .i64 acc, .n .i64 tq], .a a'] => (ivD a').bind fun a => some (true, .v (.a (poC (jPose kind (Z3.mk ox oy oz) a))))
  | _ => none
theorem ok_kJoint : OneOk Tryz.prog 140 o_kJoint := by
  intro ps r h
  unfold o_kJoint at h
  split at h
  · simp only [Option.bind_eq_some_iff, Option.some.injEq, Prod.mk.injEq] at h
    obtain ⟨a, ha, hg, rfl⟩ := h
    rw [ivD_eq ha]
    exact snd_of_rets (enters_of Tryz.func140 (by kernel_rfl) (by kernel_rfl)) rfl rfl (fun w => kJoint _ _ _ _ _ _ _ _ _ _ _ _ _ _ w)
  · cases h
noncomputable def L7 : OrL := (140, o_kJoint) :: L6
theorem L7_ok : AllP (fun x : Nat × (List PV → Option (Bool × Ret)) => OneOk Tryz.prog x.1 x.2) L7 := ⟨ok_kJoint, L6_ok⟩
noncomputable def kChk : List (List PV × Ret) := [([SL], .v (.n .i64 0))]
theorem ok_chk : OneOk Tryz.prog 67 (listed kChk) := listed_ok (Known.add tabOk mixed (Known.nil _) (N := 60) (by kernel_rfl)) List.mem_cons_self
noncomputable def L8 : OrL := (67, listed kChk) :: L7
theorem L8_ok : AllP (fun x : Nat × (List PV → Option (Bool × Ret)) => OneOk Tryz.prog x.1 x.2) L8 := ⟨ok_chk, L7_ok⟩
def gB (a b c d : Int) : Bool := decide (0 ≤ a ∧ a ≤ b ∧ b ≤ 4000 ∧ 0 ≤ c ∧ c ≤ d ∧ d ≤ 4000)
theorem gB_in {a b c d : Int} (h : gB a b c d = true) : 0 ≤ a ∧ a ≤ b ∧ b ≤ 4000 ∧ 0 ≤ c ∧ c ≤ d ∧ d ≤ 4000 := of_decide_eq_true h
def gQ (x y : Int) : Bool := decide (0 ≤ x ∧ x ≤ 4000 ∧ 0 ≤ y ∧ y ≤ 4000)
theorem gQ_in {x y : Int} (h : gQ x y = true) : 0 ≤ x ∧ x ≤ 4000 ∧ 0 ≤ y ∧ y ≤ 4000 := of_decide_eq_true h
def gC (lo hi : Int) : Bool := decide (0 ≤ lo ∧ lo ≤ hi ∧ hi ≤ 4000)
theorem gC_in {lo hi : Int} (h : gC lo hi = true) : 0 ≤ lo ∧ lo ≤ hi ∧ hi ≤ 4000 := of_decide_eq_true h
theorem eqP_eq {p q : PV} (h : eqP 50 p q = true) : p = q := (eq_all 50).1 p q h
set_option maxRecDepth 100000 in
theorem tr_values (lo : Int) (hi : Int) (a : Int) (b : Int) (c : Int) (d : Int) : runK T (OrL.k L8) 60 42 [SL, .l [[.n .i64 0, .n .i64 1, .n .i64 0, .n .i64 0, .n .i64 0, .n .i64 0, .n .i64 1, .n .i64 0, .n .i64 lo, .n .i64 hi]], .l [[.n .i64 a, .n .i64 b], [.n .i64 c, .n .i64 d]]] =
  bif Iv.valid (Iv.mk a b) then (bif Iv.valid (Iv.mk c d) then (bif (decide ((Po.app (Po.mul (jPose 4 (Z3.mk 0 0 0) (Iv.mk a b)) (jPose 5 (Z3.mk 0 0 0) (Iv.mk c d))) (V3.of (Z3.mk 0 0 0))).x.lo < (-268435456))) then some (.ow 37 2 [[.n .i64 0, .n .i64 0]], [])
      else bif (decide ((Po.app (Po.mul (jPose 4 (Z3.mk 0 0 0) (Iv.mk a b)) (jPose 5 (Z3.mk 0 0 0) (Iv.mk c d))) (V3.of (Z3.mk 0 0 0))).x.hi < (Po.app (Po.mul (jPose 4 (Z3.mk 0 0 0) (Iv.mk a b)) (jPose 5 (Z3.mk 0 0 0) (Iv.mk c d))) (V3.of (Z3.mk 0 0 0))).x.lo)) then some (.ow 37 2 [[.n .i64 0, .n .i64 0]], [])
      else bif (decide (268435456 < (Po.app (Po.mul (jPose 4 (Z3.mk 0 0 0) (Iv.mk a b)) (jPose 5 (Z3.mk 0 0 0) (Iv.mk c d))) (V3.of (Z3.mk 0 0 0))).x.hi)) then some (.ow 37 2 [[.n .i64 0, .n .i64 0]], [])
      else bif (decide ((Po.app (Po.mul (jPose 4 (Z3.mk 0 0 0) (Iv.mk a b)) (jPose 5 (Z3.mk 0 0 0) (Iv.mk c d))) (V3.of (Z3.mk 0 0 0))).y.lo < (-268435456))) then some (.ow 37 2 [[.n .i64 0, .n .i64 0]], [])
      else bif (decide ((Po.app (Po.mul (jPose 4 (Z3.mk 0 0 0) (Iv.mk a b)) (jPose 5 (Z3.mk 0 0 0) (Iv.mk c d))) (V3.of (Z3.mk 0 0 0))).y.hi < (Po.app (Po.mul (jPose 4 (Z3.mk 0 0 0) (Iv.mk a b)) (jPose 5 (Z3.mk 0 0 0) (Iv.mk c d))) (V3.of (Z3.mk 0 0 0))).y.lo)) then some (.ow 37 2 [[.n .i64 0, .n .i64 0]], [])
      else bif (decide (268435456 < (Po.app (Po.mul (jPose 4 (Z3.mk 0 0 0) (Iv.mk a b)) (jPose 5 (Z3.mk 0 0 0) (Iv.mk c d))) (V3.of (Z3.mk 0 0 0))).y.hi)) then some (.ow 37 2 [[.n .i64 0, .n .i64 0]], [])
      else bif (decide ((Po.app (Po.mul (jPose 4 (Z3.mk 0 0 0) (Iv.mk a b)) (jPose 5 (Z3.mk 0 0 0) (Iv.mk c d))) (V3.of (Z3.mk 0 0 0))).z.lo < (-268435456))) then some (.ow 37 2 [[.n .i64 0, .n .i64 0]], [])
      else bif (decide ((Po.app (Po.mul (jPose 4 (Z3.mk 0 0 0) (Iv.mk a b)) (jPose 5 (Z3.mk 0 0 0) (Iv.mk c d))) (V3.of (Z3.mk 0 0 0))).z.hi < (Po.app (Po.mul (jPose 4 (Z3.mk 0 0 0) (Iv.mk a b)) (jPose 5 (Z3.mk 0 0 0) (Iv.mk c d))) (V3.of (Z3.mk 0 0 0))).z.lo)) then some (.ow 37 2 [[.n .i64 0, .n .i64 0]], [])
      else bif (decide (268435456 < (Po.app (Po.mul (jPose 4 (Z3.mk 0 0 0) (Iv.mk a b)) (jPose 5 (Z3.mk 0 0 0) (Iv.mk c d))) (V3.of (Z3.mk 0 0 0))).z.hi)) then some (.ow 37 2 [[.n .i64 0, .n .i64 0]], [])
      else some (.ow 37 2 [[.n .i64 (IntKind.i64.wrap ((IntKind.i64.wrap ((IntKind.i64.wrap (0 + (min (IntKind.i64.wrap (0 * (Po.app (Po.mul (jPose 4 (Z3.mk 0 0 0) (Iv.mk a b)) (jPose 5 (Z3.mk 0 0 0) (Iv.mk c d))) (V3.of (Z3.mk 0 0 0))).x.lo)) (IntKind.i64.wrap (0 * (Po.app (Po.mul (jPose 4 (Z3.mk 0 0 0) (Iv.mk a b)) (jPose 5 (Z3.mk 0 0 0) (Iv.mk c d))) (V3.of (Z3.mk 0 0 0))).x.hi))))) + (min (IntKind.i64.wrap (1 * (Po.app (Po.mul (jPose 4 (Z3.mk 0 0 0) (Iv.mk a b)) (jPose 5 (Z3.mk 0 0 0) (Iv.mk c d))) (V3.of (Z3.mk 0 0 0))).y.lo)) (IntKind.i64.wrap (1 * (Po.app (Po.mul (jPose 4 (Z3.mk 0 0 0) (Iv.mk a b)) (jPose 5 (Z3.mk 0 0 0) (Iv.mk c d))) (V3.of (Z3.mk 0 0 0))).y.hi))))) + (min (IntKind.i64.wrap (0 * (Po.app (Po.mul (jPose 4 (Z3.mk 0 0 0) (Iv.mk a b)) (jPose 5 (Z3.mk 0 0 0) (Iv.mk c d))) (V3.of (Z3.mk 0 0 0))).z.lo)) (IntKind.i64.wrap (0 * (Po.app (Po.mul (jPose 4 (Z3.mk 0 0 0) (Iv.mk a b)) (jPose 5 (Z3.mk 0 0 0) (Iv.mk c d))) (V3.of (Z3.mk 0 0 0))).z.hi))))), .n .i64 (IntKind.i64.wrap ((IntKind.i64.wrap ((IntKind.i64.wrap (0 + (max (IntKind.i64.wrap (0 * (Po.app (Po.mul (jPose 4 (Z3.mk 0 0 0) (Iv.mk a b)) (jPose 5 (Z3.mk 0 0 0) (Iv.mk c d))) (V3.of (Z3.mk 0 0 0))).x.lo)) (IntKind.i64.wrap (0 * (Po.app (Po.mul (jPose 4 (Z3.mk 0 0 0) (Iv.mk a b)) (jPose 5 (Z3.mk 0 0 0) (Iv.mk c d))) (V3.of (Z3.mk 0 0 0))).x.hi))))) + (max (IntKind.i64.wrap (1 * (Po.app (Po.mul (jPose 4 (Z3.mk 0 0 0) (Iv.mk a b)) (jPose 5 (Z3.mk 0 0 0) (Iv.mk c d))) (V3.of (Z3.mk 0 0 0))).y.lo)) (IntKind.i64.wrap (1 * (Po.app (Po.mul (jPose 4 (Z3.mk 0 0 0) (Iv.mk a b)) (jPose 5 (Z3.mk 0 0 0) (Iv.mk c d))) (V3.of (Z3.mk 0 0 0))).y.hi))))) + (max (IntKind.i64.wrap (0 * (Po.app (Po.mul (jPose 4 (Z3.mk 0 0 0) (Iv.mk a b)) (jPose 5 (Z3.mk 0 0 0) (Iv.mk c d))) (V3.of (Z3.mk 0 0 0))).z.lo)) (IntKind.i64.wrap (0 * (Po.app (Po.mul (jPose 4 (Z3.mk 0 0 0) (Iv.mk a b)) (jPose 5 (Z3.mk 0 0 0) (Iv.mk c d))) (V3.of (Z3.mk 0 0 0))).z.hi)))))]], []))
    else none)
  else none := by kernel_rfl
theorem sp_values {a b c d lo hi : Int} (h : gB a b c d = true) : runK T (OrL.k L8) 60 42 [SL, .l [[.n .i64 0, .n .i64 1, .n .i64 0, .n .i64 0, .n .i64 0, .n .i64 0, .n .i64 1, .n .i64 0, .n .i64 lo, .n .i64 hi]], .l [[.n .i64 a, .n .i64 b], [.n .i64 c, .n .i64 d]]] = some (.ow 37 2 [[.n .i64 c, .n .i64 d]], []) := by
  have hg := gB_in h
  have oa : Ok ⟨a, b⟩ := by unfold Ok; dsimp only; omega
  have oc : Ok ⟨c, d⟩ := by unfold Ok; dsimp only; omega
  rw [tr_values, show Iv.valid (Iv.mk a b) = true from valid_of oa, cond_true, show Iv.valid (Iv.mk c d) = true from valid_of oc, cond_true]
  have hp := sl_app oa oc
  generalize (Po.app (Po.mul (jPose 4 (Z3.mk 0 0 0) (Iv.mk a b)) (jPose 5 (Z3.mk 0 0 0) (Iv.mk c d))) (V3.of (Z3.mk 0 0 0))) = v at hp ⊢
  have e1 : v.x.lo = a := by rw [hp]
  have e2 : v.x.hi = b := by rw [hp]
  have e3 : v.y.lo = c := by rw [hp]
  have e4 : v.y.hi = d := by rw [hp]
  have e5 : v.z.lo = 0 := by rw [hp]; rfl
  have e6 : v.z.hi = 0 := by rw [hp]; rfl
  have w0 : IntKind.i64.wrap (0 * v.x.lo) = (0 * v.x.lo) := i64_in (by omega)
  have w1 : IntKind.i64.wrap (0 * v.x.hi) = (0 * v.x.hi) := i64_in (by omega)
  have w2 : IntKind.i64.wrap (0 + (min (0 * v.x.lo) (0 * v.x.hi))) = (0 + (min (0 * v.x.lo) (0 * v.x.hi))) := i64_in (by omega)
  have w3 : IntKind.i64.wrap (1 * v.y.lo) = (1 * v.y.lo) := i64_in (by omega)
  have w4 : IntKind.i64.wrap (1 * v.y.hi) = (1 * v.y.hi) := i64_in (by omega)
  have w5 : IntKind.i64.wrap ((0 + (min (0 * v.x.lo) (0 * v.x.hi))) + (min (1 * v.y.lo) (1 * v.y.hi))) = ((0 + (min (0 * v.x.lo) (0 * v.x.hi))) + (min (1 * v.y.lo) (1 * v.y.hi))) := i64_in (by omega)
  have w6 : IntKind.i64.wrap (0 * v.z.lo) = (0 * v.z.lo) := i64_in (by omega)
  have w7 : IntKind.i64.wrap (0 * v.z.hi) = (0 * v.z.hi) := i64_in (by omega)
  have w8 : IntKind.i64.wrap (((0 + (min (0 * v.x.lo) (0 * v.x.hi))) + (min (1 * v.y.lo) (1 * v.y.hi))) + (min (0 * v.z.lo) (0 * v.z.hi))) = (((0 + (min (0 * v.x.lo) (0 * v.x.hi))) + (min (1 * v.y.lo) (1 * v.y.hi))) + (min (0 * v.z.lo) (0 * v.z.hi))) := i64_in (by omega)
  have w9 : IntKind.i64.wrap (0 + (max (0 * v.x.lo) (0 * v.x.hi))) = (0 + (max (0 * v.x.lo) (0 * v.x.hi))) := i64_in (by omega)
  have w10 : IntKind.i64.wrap ((0 + (max (0 * v.x.lo) (0 * v.x.hi))) + (max (1 * v.y.lo) (1 * v.y.hi))) = ((0 + (max (0 * v.x.lo) (0 * v.x.hi))) + (max (1 * v.y.lo) (1 * v.y.hi))) := i64_in (by omega)
  have w11 : IntKind.i64.wrap (((0 + (max (0 * v.x.lo) (0 * v.x.hi))) + (max (1 * v.y.lo) (1 * v.y.hi))) + (max (0 * v.z.lo) (0 * v.z.hi))) = (((0 + (max (0 * v.x.lo) (0 * v.x.hi))) + (max (1 * v.y.lo) (1 * v.y.hi))) + (max (0 * v.z.lo) (0 * v.z.hi))) := i64_in (by omega)
  simp only [w0, w1, w2, w3, w4, w5, w6, w7, w8, w9, w10, w11]
  rw [show (decide (v.x.lo < (-268435456))) = false from decide_eq_false (by omega), cond_false]
  rw [show (decide (v.x.hi < v.x.lo)) = false from decide_eq_false (by omega), cond_false]
  rw [show (decide (268435456 < v.x.hi)) = false from decide_eq_false (by omega), cond_false]
  rw [show (decide (v.y.lo < (-268435456))) = false from decide_eq_false (by omega), cond_false]
  rw [show (decide (v.y.hi < v.y.lo)) = false from decide_eq_false (by omega), cond_false]
  rw [show (decide (268435456 < v.y.hi)) = false from decide_eq_false (by omega), cond_false]
  rw [show (decide (v.z.lo < (-268435456))) = false from decide_eq_false (by omega), cond_false]
  rw [show (decide (v.z.hi < v.z.lo)) = false from decide_eq_false (by omega), cond_false]
  rw [show (decide (268435456 < v.z.hi)) = false from decide_eq_false (by omega), cond_false]
  rw [show ((0 + (min (0 * v.x.lo) (0 * v.x.hi))) + (min (1 * v.y.lo) (1 * v.y.hi))) + (min (0 * v.z.lo) (0 * v.z.hi)) = c by omega, show ((0 + (max (0 * v.x.lo) (0 * v.x.hi))) + (max (1 * v.y.lo) (1 * v.y.hi))) + (max (0 * v.z.lo) (0 * v.z.hi)) = d by omega]
noncomputable def o_values : List PV → Option (Bool × Ret) := fun ps => match ps with
  | [rb, .l [[.n .i64 k0, .n .i64 k1, .n .i64 k2, .n .i64 k3, .n .i64 k4, .n .i64 k5, .n .i64 k6, .n .i64 k7, .n .i64 lo, .n .i64 hi]], .l [[.n .i64 a, .n .i64 b], [.n .i64 c, .n .i64 d]]] => some (eqP 50 rb SL && decide (k0 = 0) && decide (k1 = 1) && decide (k2 = 0) && decide (k3 = 0) && decide (k4 = 0) && decide (k5 = 0) && decide (k6 = 1) && decide (k7 = 0) && gB a b c d, .ow 37 2 [[.n .i64 c, .n .i64 d]])
  | _ => none
theorem ok_values : OneOk Tryz.prog 42 o_values := by
  intro ps r h
  unfold o_values at h
  split at h
  · simp only [Option.some.injEq, Prod.mk.injEq] at h
    obtain ⟨hg, rfl⟩ := h
    simp only [Bool.and_eq_true, decide_eq_true_eq] at hg
    obtain ⟨⟨⟨⟨⟨⟨⟨⟨⟨hrb, ek0⟩, ek1⟩, ek2⟩, ek3⟩, ek4⟩, ek5⟩, ek6⟩, ek7⟩, hgb⟩ := hg
    obtain rfl := eqP_eq hrb
    subst ek0 ek1 ek2 ek3 ek4 ek5 ek6 ek7
    exact runK_sound tabOk mixed (OrL.ok L8_ok) (sp_values hgb)
  · cases h
noncomputable def L9 : OrL := (42, o_values) :: L8
theorem L9_ok : AllP (fun x : Nat × (List PV → Option (Bool × Ret)) => OneOk Tryz.prog x.1 x.2) L9 := ⟨ok_values, L8_ok⟩
set_option maxRecDepth 100000 in
theorem tr_check (lo : Int) (hi : Int) : runK T (OrL.k L9) 60 40 [SL, .l [[.n .i64 0, .n .i64 1, .n .i64 0, .n .i64 0, .n .i64 0, .n .i64 0, .n .i64 1, .n .i64 0, .n .i64 lo, .n .i64 hi]]] =
  bif (decide (hi < lo)) then some (.v (.b false), [])
  else bif (decide (lo < (-70368744177664))) then some (.v (.b false), [])
  else bif (decide (70368744177664 < hi)) then some (.v (.b false), [])
  else some (.v (.b true), []) := by kernel_rfl
theorem sp_check {lo hi : Int} (hc : gC lo hi = true) : runK T (OrL.k L9) 60 40 [SL, .l [[.n .i64 0, .n .i64 1, .n .i64 0, .n .i64 0, .n .i64 0, .n .i64 0, .n .i64 1, .n .i64 0, .n .i64 lo, .n .i64 hi]]] = some (.v (.b true), []) := by
  have q_hc := gC_in hc
  rw [tr_check]
  rw [show (decide (hi < lo)) = false from decide_eq_false (by omega), cond_false]
  rw [show (decide (lo < (-70368744177664))) = false from decide_eq_false (by omega), cond_false]
  rw [show (decide (70368744177664 < hi)) = false from decide_eq_false (by omega), cond_false]
  try rfl
noncomputable def o_check : List PV → Option (Bool × Ret) := fun ps => match ps with
  | [rb, .l [[.n .i64 k0, .n .i64 k1, .n .i64 k2, .n .i64 k3, .n .i64 k4, .n .i64 k5, .n .i64 k6, .n .i64 k7, .n .i64 lo, .n .i64 hi]]] => some (eqP 50 rb SL && decide (k0 = 0) && decide (k1 = 1) && decide (k2 = 0) && decide (k3 = 0) && decide (k4 = 0) && decide (k5 = 0) && decide (k6 = 1) && decide (k7 = 0) && gC lo hi, .v (.b true))
  | _ => none
theorem ok_check : OneOk Tryz.prog 40 o_check := by
  intro ps r h
  unfold o_check at h
  split at h
  · simp only [Option.some.injEq, Prod.mk.injEq] at h
    obtain ⟨hg, rfl⟩ := h
    simp only [Bool.and_eq_true, decide_eq_true_eq] at hg
    obtain ⟨⟨⟨⟨⟨⟨⟨⟨⟨hrb, ek0⟩, ek1⟩, ek2⟩, ek3⟩, ek4⟩, ek5⟩, ek6⟩, ek7⟩, hc⟩ := hg
    obtain rfl := eqP_eq hrb
    subst ek0 ek1 ek2 ek3 ek4 ek5 ek6 ek7
    exact runK_sound tabOk mixed (OrL.ok L9_ok) (sp_check hc)
  · cases h
noncomputable def L10 : OrL := (40, o_check) :: L9
theorem L10_ok : AllP (fun x : Nat × (List PV → Option (Bool × Ret)) => OneOk Tryz.prog x.1 x.2) L10 := ⟨ok_check, L9_ok⟩
set_option maxRecDepth 100000 in
theorem tr_inside (x : Int) (y : Int) : runK T (OrL.k L10) 60 46 [SL, .l [[.n .i64 x], [.n .i64 y]]] =
  bif (decide (0 ≤ x)) then (bif (decide (x ≤ 4000)) then (bif (decide (0 ≤ y)) then (bif (decide (y ≤ 4000)) then some (.v (.b true), [])
        else some (.v (.b false), []))
      else some (.v (.b false), []))
    else some (.v (.b false), []))
  else some (.v (.b false), []) := by kernel_rfl
theorem sp_inside {x y : Int} (hq : gQ x y = true) : runK T (OrL.k L10) 60 46 [SL, .l [[.n .i64 x], [.n .i64 y]]] = some (.v (.b true), []) := by
  have q_hq := gQ_in hq
  rw [tr_inside]
  rw [show (decide (0 ≤ x)) = true from decide_eq_true (by omega), cond_true]
  rw [show (decide (x ≤ 4000)) = true from decide_eq_true (by omega), cond_true]
  rw [show (decide (0 ≤ y)) = true from decide_eq_true (by omega), cond_true]
  rw [show (decide (y ≤ 4000)) = true from decide_eq_true (by omega), cond_true]
  try rfl
noncomputable def o_inside : List PV → Option (Bool × Ret) := fun ps => match ps with
  | [rb, .l [[.n .i64 x], [.n .i64 y]]] => some (eqP 50 rb SL && gQ x y, .v (.b true))
  | _ => none
theorem ok_inside : OneOk Tryz.prog 46 o_inside := by
  intro ps r h
  unfold o_inside at h
  split at h
  · simp only [Option.some.injEq, Prod.mk.injEq] at h
    obtain ⟨hg, rfl⟩ := h
    simp only [Bool.and_eq_true, decide_eq_true_eq] at hg
    obtain ⟨hrb, hq⟩ := hg
    obtain rfl := eqP_eq hrb
    exact runK_sound tabOk mixed (OrL.ok L10_ok) (sp_inside hq)
  · cases h
noncomputable def L11 : OrL := (46, o_inside) :: L10
theorem L11_ok : AllP (fun x : Nat × (List PV → Option (Bool × Ret)) => OneOk Tryz.prog x.1 x.2) L11 := ⟨ok_inside, L10_ok⟩
set_option maxRecDepth 100000 in
theorem tr_box (x : Int) (y : Int) : runK T (OrL.k L11) 60 56 [.l [[.n .i64 x], [.n .i64 y]]] =
  bif (decide (x < (-2147483648))) then some (.v (.l []), [])
  else bif (decide (2147483648 < x)) then some (.v (.l []), [])
  else bif (decide (y < (-2147483648))) then some (.v (.l []), [])
  else bif (decide (2147483648 < y)) then some (.v (.l []), [])
  else some (.v (.l [[.n .i64 (Iv.of x).lo, .n .i64 (Iv.of x).hi], [.n .i64 (Iv.of y).lo, .n .i64 (Iv.of y).hi]]), []) := by kernel_rfl
theorem sp_box {x y : Int} (hq : gQ x y = true) : runK T (OrL.k L11) 60 56 [.l [[.n .i64 x], [.n .i64 y]]] = some (.v (.l [[.n .i64 x, .n .i64 x], [.n .i64 y, .n .i64 y]]), []) := by
  have q_hq := gQ_in hq
  rw [tr_box]
  rw [show (decide (x < (-2147483648))) = false from decide_eq_false (by omega), cond_false]
  rw [show (decide (2147483648 < x)) = false from decide_eq_false (by omega), cond_false]
  rw [show (decide (y < (-2147483648))) = false from decide_eq_false (by omega), cond_false]
  rw [show (decide (2147483648 < y)) = false from decide_eq_false (by omega), cond_false]
  rw [of_in (x := x) (by omega), of_in (x := y) (by omega)]
noncomputable def o_box : List PV → Option (Bool × Ret) := fun ps => match ps with
  | [.l [[.n .i64 x], [.n .i64 y]]] => some (gQ x y, .v (.l [[.n .i64 x, .n .i64 x], [.n .i64 y, .n .i64 y]]))
  | _ => none
theorem ok_box : OneOk Tryz.prog 56 o_box := by
  intro ps r h
  unfold o_box at h
  split at h
  · simp only [Option.some.injEq, Prod.mk.injEq] at h
    obtain ⟨hg, rfl⟩ := h
    have hq := hg
    exact runK_sound tabOk mixed (OrL.ok L11_ok) (sp_box hq)
  · cases h
noncomputable def L12 : OrL := (56, o_box) :: L11
theorem L12_ok : AllP (fun x : Nat × (List PV → Option (Bool × Ret)) => OneOk Tryz.prog x.1 x.2) L12 := ⟨ok_box, L11_ok⟩
set_option maxRecDepth 100000 in
theorem tr_insideBox (a : Int) (b : Int) (c : Int) (d : Int) : runK T (OrL.k L12) 60 41 [SL, .l [[.n .i64 a, .n .i64 b], [.n .i64 c, .n .i64 d]]] =
  bif Iv.within (Iv.mk a b) (Iv.mk 0 4000) then (bif Iv.within (Iv.mk c d) (Iv.mk 0 4000) then some (.v (.b true), [])
    else some (.v (.b false), []))
  else some (.v (.b false), []) := by kernel_rfl
theorem sp_insideBox {a b c d : Int} (hb : gB a b c d = true) : runK T (OrL.k L12) 60 41 [SL, .l [[.n .i64 a, .n .i64 b], [.n .i64 c, .n .i64 d]]] = some (.v (.b true), []) := by
  have q_hb := gB_in hb
  rw [tr_insideBox]
  rw [show Iv.within (Iv.mk a b) (Iv.mk 0 4000) = true from by unfold Iv.within Iv.valid; simp only [Bool.and_eq_true, decide_eq_true_eq]; omega, cond_true]
  rw [show Iv.within (Iv.mk c d) (Iv.mk 0 4000) = true from by unfold Iv.within Iv.valid; simp only [Bool.and_eq_true, decide_eq_true_eq]; omega, cond_true]
  try rfl
noncomputable def o_insideBox : List PV → Option (Bool × Ret) := fun ps => match ps with
  | [rb, .l [[.n .i64 a, .n .i64 b], [.n .i64 c, .n .i64 d]]] => some (eqP 50 rb SL && gB a b c d, .v (.b true))
  | _ => none
theorem ok_insideBox : OneOk Tryz.prog 41 o_insideBox := by
  intro ps r h
  unfold o_insideBox at h
  split at h
  · simp only [Option.some.injEq, Prod.mk.injEq] at h
    obtain ⟨hg, rfl⟩ := h
    simp only [Bool.and_eq_true, decide_eq_true_eq] at hg
    obtain ⟨hrb, hb⟩ := hg
    obtain rfl := eqP_eq hrb
    exact runK_sound tabOk mixed (OrL.ok L12_ok) (sp_insideBox hb)
  · cases h
noncomputable def L13 : OrL := (41, o_insideBox) :: L12
theorem L13_ok : AllP (fun x : Nat × (List PV → Option (Bool × Ret)) => OneOk Tryz.prog x.1 x.2) L13 := ⟨ok_insideBox, L12_ok⟩
set_option maxRecDepth 100000 in
theorem tr_holds (lo : Int) (hi : Int) (a : Int) (b : Int) (c : Int) (d : Int) : runK T (OrL.k L13) 60 19 [SL, .l [[.n .i64 0, .n .i64 1, .n .i64 0, .n .i64 0, .n .i64 0, .n .i64 0, .n .i64 1, .n .i64 0, .n .i64 lo, .n .i64 hi]], .l [[.n .i64 a, .n .i64 b], [.n .i64 c, .n .i64 d]]] =
  bif gC lo hi then (bif gB a b c d then (bif gB a b c d then (bif (decide (c < lo)) then some (.v (.b false), [])
        else bif (decide (hi < d)) then some (.v (.b false), [])
        else some (.v (.b true), []))
      else none)
    else none)
  else none := by kernel_rfl
theorem sp_holds {a b c d lo hi : Int} (hc : gC lo hi = true) (hb : gB a b c d = true) : runK T (OrL.k L13) 60 19 [SL, .l [[.n .i64 0, .n .i64 1, .n .i64 0, .n .i64 0, .n .i64 0, .n .i64 0, .n .i64 1, .n .i64 0, .n .i64 lo, .n .i64 hi]], .l [[.n .i64 a, .n .i64 b], [.n .i64 c, .n .i64 d]]] = some (.v (.b (decide (lo ≤ c ∧ d ≤ hi))), []) := by
  have q_hc := gC_in hc
  have q_hb := gB_in hb
  rw [tr_holds]
  rw [show gC lo hi = true from hc, cond_true]
  rw [show gB a b c d = true from hb, cond_true]
  rw [cond_true]
  cases p1 : decide (c < lo) <;> cases p2 : decide (hi < d) <;> simp only [cond_true, cond_false] <;> simp only [decide_eq_true_eq, decide_eq_false_iff_not] at p1 p2 <;> first | (rw [show decide (lo ≤ c ∧ d ≤ hi) = true from decide_eq_true (by omega)]; done) | (rw [show decide (lo ≤ c ∧ d ≤ hi) = false from decide_eq_false (by omega)]; done)
noncomputable def o_holds : List PV → Option (Bool × Ret) := fun ps => match ps with
  | [rb, .l [[.n .i64 k0, .n .i64 k1, .n .i64 k2, .n .i64 k3, .n .i64 k4, .n .i64 k5, .n .i64 k6, .n .i64 k7, .n .i64 lo, .n .i64 hi]], .l [[.n .i64 a, .n .i64 b], [.n .i64 c, .n .i64 d]]] => some (eqP 50 rb SL && decide (k0 = 0) && decide (k1 = 1) && decide (k2 = 0) && decide (k3 = 0) && decide (k4 = 0) && decide (k5 = 0) && decide (k6 = 1) && decide (k7 = 0) && gC lo hi && gB a b c d, .v (.b (decide (lo ≤ c ∧ d ≤ hi))))
  | _ => none
theorem ok_holds : OneOk Tryz.prog 19 o_holds := by
  intro ps r h
  unfold o_holds at h
  split at h
  · simp only [Option.some.injEq, Prod.mk.injEq] at h
    obtain ⟨hg, rfl⟩ := h
    simp only [Bool.and_eq_true, decide_eq_true_eq] at hg
    obtain ⟨⟨⟨⟨⟨⟨⟨⟨⟨⟨hrb, ek0⟩, ek1⟩, ek2⟩, ek3⟩, ek4⟩, ek5⟩, ek6⟩, ek7⟩, hc⟩, hb⟩ := hg
    obtain rfl := eqP_eq hrb
    subst ek0 ek1 ek2 ek3 ek4 ek5 ek6 ek7
    exact runK_sound tabOk mixed (OrL.ok L13_ok) (sp_holds hc hb)
  · cases h
noncomputable def L14 : OrL := (19, o_holds) :: L13
theorem L14_ok : AllP (fun x : Nat × (List PV → Option (Bool × Ret)) => OneOk Tryz.prog x.1 x.2) L14 := ⟨ok_holds, L13_ok⟩
set_option maxRecDepth 100000 in
theorem tr_value (lo : Int) (hi : Int) (a : Int) (b : Int) (c : Int) (d : Int) : runK T (OrL.k L14) 60 13 [SL, .a [.n .i64 0, .n .i64 1, .n .i64 0, .n .i64 0, .n .i64 0, .n .i64 0, .n .i64 1, .n .i64 0, .n .i64 lo, .n .i64 hi], .l [[.n .i64 a, .n .i64 b], [.n .i64 c, .n .i64 d]]] =
  bif gC lo hi then (bif gB a b c d then (bif gB a b c d then some (.v (.t [.a [.n .i64 c, .n .i64 d], .b true]), [])
      else none)
    else none)
  else none := by kernel_rfl
theorem sp_value {a b c d lo hi : Int} (hc : gC lo hi = true) (hb : gB a b c d = true) : runK T (OrL.k L14) 60 13 [SL, .a [.n .i64 0, .n .i64 1, .n .i64 0, .n .i64 0, .n .i64 0, .n .i64 0, .n .i64 1, .n .i64 0, .n .i64 lo, .n .i64 hi], .l [[.n .i64 a, .n .i64 b], [.n .i64 c, .n .i64 d]]] = some (.v (.t [.a [.n .i64 c, .n .i64 d], .b true]), []) := by
  have q_hc := gC_in hc
  have q_hb := gB_in hb
  rw [tr_value]
  rw [show gC lo hi = true from hc, cond_true]
  rw [show gB a b c d = true from hb, cond_true]
  rw [cond_true]
  try rfl
noncomputable def o_value : List PV → Option (Bool × Ret) := fun ps => match ps with
  | [rb, .a [.n .i64 k0, .n .i64 k1, .n .i64 k2, .n .i64 k3, .n .i64 k4, .n .i64 k5, .n .i64 k6, .n .i64 k7, .n .i64 lo, .n .i64 hi], .l [[.n .i64 a, .n .i64 b], [.n .i64 c, .n .i64 d]]] => some (eqP 50 rb SL && decide (k0 = 0) && decide (k1 = 1) && decide (k2 = 0) && decide (k3 = 0) && decide (k4 = 0) && decide (k5 = 0) && decide (k6 = 1) && decide (k7 = 0) && gC lo hi && gB a b c d, .v (.t [.a [.n .i64 c, .n .i64 d], .b true]))
  | _ => none
theorem ok_value : OneOk Tryz.prog 13 o_value := by
  intro ps r h
  unfold o_value at h
  split at h
  · simp only [Option.some.injEq, Prod.mk.injEq] at h
    obtain ⟨hg, rfl⟩ := h
    simp only [Bool.and_eq_true, decide_eq_true_eq] at hg
    obtain ⟨⟨⟨⟨⟨⟨⟨⟨⟨⟨hrb, ek0⟩, ek1⟩, ek2⟩, ek3⟩, ek4⟩, ek5⟩, ek6⟩, ek7⟩, hc⟩, hb⟩ := hg
    obtain rfl := eqP_eq hrb
    subst ek0 ek1 ek2 ek3 ek4 ek5 ek6 ek7
    exact runK_sound tabOk mixed (OrL.ok L14_ok) (sp_value hc hb)
  · cases h
noncomputable def L15 : OrL := (13, o_value) :: L14
theorem L15_ok : AllP (fun x : Nat × (List PV → Option (Bool × Ret)) => OneOk Tryz.prog x.1 x.2) L15 := ⟨ok_value, L14_ok⟩
theorem mid_self (y : Int) : (y + y).fdiv (2 ^ 1) = y := by
  rw [Int.fdiv_eq_ediv_of_nonneg _ (by decide)]; omega
set_option maxRecDepth 100000 in
theorem tr_val (lo : Int) (hi : Int) (x : Int) (y : Int) : runK T (OrL.k L15) 60 118 [SL, .a [.n .i64 0, .n .i64 1, .n .i64 0, .n .i64 0, .n .i64 0, .n .i64 0, .n .i64 1, .n .i64 0, .n .i64 lo, .n .i64 hi], .l [[.n .i64 x], [.n .i64 y]]] =
  bif gQ x y then (bif (gC lo hi && gB x x y y) then some (.v (.n .i64 ((IntKind.i64.wrap (y + y)).fdiv (2 ^ 1))), [])
    else none)
  else none := by kernel_rfl
theorem sp_val {x y lo hi : Int} (hc : gC lo hi = true) (hq : gQ x y = true) : runK T (OrL.k L15) 60 118 [SL, .a [.n .i64 0, .n .i64 1, .n .i64 0, .n .i64 0, .n .i64 0, .n .i64 0, .n .i64 1, .n .i64 0, .n .i64 lo, .n .i64 hi], .l [[.n .i64 x], [.n .i64 y]]] = some (.v (.n .i64 y), []) := by
  have q_hc := gC_in hc
  have q_hq := gQ_in hq
  rw [tr_val]
  have w0 : IntKind.i64.wrap (y + y) = (y + y) := i64_in (by omega)
  simp only [w0]
  rw [show gQ x y = true from hq, cond_true]
  rw [show (gC lo hi && gB x x y y) = true from by rw [hc, show gB x x y y = true from decide_eq_true (by omega)]; rfl, cond_true]
  rw [mid_self]
noncomputable def o_val : List PV → Option (Bool × Ret) := fun ps => match ps with
  | [rb, .a [.n .i64 k0, .n .i64 k1, .n .i64 k2, .n .i64 k3, .n .i64 k4, .n .i64 k5, .n .i64 k6, .n .i64 k7, .n .i64 lo, .n .i64 hi], .l [[.n .i64 x], [.n .i64 y]]] => some (eqP 50 rb SL && decide (k0 = 0) && decide (k1 = 1) && decide (k2 = 0) && decide (k3 = 0) && decide (k4 = 0) && decide (k5 = 0) && decide (k6 = 1) && decide (k7 = 0) && gC lo hi && gQ x y, .v (.n .i64 (y)))
  | _ => none
theorem ok_val : OneOk Tryz.prog 118 o_val := by
  intro ps r h
  unfold o_val at h
  split at h
  · simp only [Option.some.injEq, Prod.mk.injEq] at h
    obtain ⟨hg, rfl⟩ := h
    simp only [Bool.and_eq_true, decide_eq_true_eq] at hg
    obtain ⟨⟨⟨⟨⟨⟨⟨⟨⟨⟨hrb, ek0⟩, ek1⟩, ek2⟩, ek3⟩, ek4⟩, ek5⟩, ek6⟩, ek7⟩, hc⟩, hq⟩ := hg
    obtain rfl := eqP_eq hrb
    subst ek0 ek1 ek2 ek3 ek4 ek5 ek6 ek7
    exact runK_sound tabOk mixed (OrL.ok L15_ok) (sp_val hc hq)
  · cases h
noncomputable def L16 : OrL := (118, o_val) :: L15
theorem L16_ok : AllP (fun x : Nat × (List PV → Option (Bool × Ret)) => OneOk Tryz.prog x.1 x.2) L16 := ⟨ok_val, L15_ok⟩
set_option maxRecDepth 100000 in
theorem tr_grad (lo : Int) (hi : Int) (x : Int) (y : Int) : runK T (OrL.k L16) 60 115 [SL, .a [.n .i64 0, .n .i64 1, .n .i64 0, .n .i64 0, .n .i64 0, .n .i64 0, .n .i64 1, .n .i64 0, .n .i64 lo, .n .i64 hi], .l [[.n .i64 x], [.n .i64 y]]] =
  bif gC lo hi then (bif gQ x y then (bif (decide ((max (IntKind.i64.wrap (x - 64)) 0) = (min (IntKind.i64.wrap (x + 64)) 4000))) then (bif (decide ((max (IntKind.i64.wrap (y - 64)) 0) = (min (IntKind.i64.wrap (y + 64)) 4000))) then some (.v (.t [.l [[.n .i64 0], [.n .i64 0]], .b true]), [])
        else bif (gC lo hi && gQ x (max (IntKind.i64.wrap (y - 64)) 0)) then (bif (gC lo hi && gQ x (min (IntKind.i64.wrap (y + 64)) 4000)) then (bif (decide ((IntKind.i64.wrap ((min (IntKind.i64.wrap (y + 64)) 4000) - (max (IntKind.i64.wrap (y - 64)) 0))) = 0)) then none
            else some (.v (.t [.l [[.n .i64 0], [.n .i64 (IntKind.i64.wrap ((IntKind.i64.wrap ((IntKind.i64.wrap ((min (IntKind.i64.wrap (y + 64)) 4000) - (max (IntKind.i64.wrap (y - 64)) 0))) * 128)).tdiv (IntKind.i64.wrap ((min (IntKind.i64.wrap (y + 64)) 4000) - (max (IntKind.i64.wrap (y - 64)) 0)))))]], .b true]), []))
          else none)
        else none)
      else bif (gC lo hi && gQ (max (IntKind.i64.wrap (x - 64)) 0) y) then (bif (gC lo hi && gQ (min (IntKind.i64.wrap (x + 64)) 4000) y) then (bif (decide ((IntKind.i64.wrap ((min (IntKind.i64.wrap (x + 64)) 4000) - (max (IntKind.i64.wrap (x - 64)) 0))) = 0)) then none
          else bif (decide ((max (IntKind.i64.wrap (y - 64)) 0) = (min (IntKind.i64.wrap (y + 64)) 4000))) then some (.v (.t [.l [[.n .i64 (IntKind.i64.wrap ((IntKind.i64.wrap ((IntKind.i64.wrap (y - y)) * 128)).tdiv (IntKind.i64.wrap ((min (IntKind.i64.wrap (x + 64)) 4000) - (max (IntKind.i64.wrap (x - 64)) 0)))))], [.n .i64 0]], .b true]), [])
          else bif (gC lo hi && gQ x (max (IntKind.i64.wrap (y - 64)) 0)) then (bif (gC lo hi && gQ x (min (IntKind.i64.wrap (y + 64)) 4000)) then (bif (decide ((IntKind.i64.wrap ((min (IntKind.i64.wrap (y + 64)) 4000) - (max (IntKind.i64.wrap (y - 64)) 0))) = 0)) then none
              else some (.v (.t [.l [[.n .i64 (IntKind.i64.wrap ((IntKind.i64.wrap ((IntKind.i64.wrap (y - y)) * 128)).tdiv (IntKind.i64.wrap ((min (IntKind.i64.wrap (x + 64)) 4000) - (max (IntKind.i64.wrap (x - 64)) 0)))))], [.n .i64 (IntKind.i64.wrap ((IntKind.i64.wrap ((IntKind.i64.wrap ((min (IntKind.i64.wrap (y + 64)) 4000) - (max (IntKind.i64.wrap (y - 64)) 0))) * 128)).tdiv (IntKind.i64.wrap ((min (IntKind.i64.wrap (y + 64)) 4000) - (max (IntKind.i64.wrap (y - 64)) 0)))))]], .b true]), []))
            else none)
          else none)
        else none)
      else none)
    else none)
  else none := by kernel_rfl
theorem sp_grad {x y lo hi : Int} (hc : gC lo hi = true) (hq : gQ x y = true) : runK T (OrL.k L16) 60 115 [SL, .a [.n .i64 0, .n .i64 1, .n .i64 0, .n .i64 0, .n .i64 0, .n .i64 0, .n .i64 1, .n .i64 0, .n .i64 lo, .n .i64 hi], .l [[.n .i64 x], [.n .i64 y]]] = some (.v (.t [.l [[.n .i64 0], [.n .i64 128]], .b true]), []) := by
  have q_hc := gC_in hc
  have q_hq := gQ_in hq
  rw [tr_grad]
  have w0 : IntKind.i64.wrap (x - 64) = (x - 64) := i64_in (by omega)
  have w1 : IntKind.i64.wrap (x + 64) = (x + 64) := i64_in (by omega)
  have w2 : IntKind.i64.wrap ((min (x + 64) 4000) - (max (x - 64) 0)) = ((min (x + 64) 4000) - (max (x - 64) 0)) := i64_in (by omega)
  have w3 : IntKind.i64.wrap (y - 64) = (y - 64) := i64_in (by omega)
  have w4 : IntKind.i64.wrap (y + 64) = (y + 64) := i64_in (by omega)
  have w5 : IntKind.i64.wrap ((min (y + 64) 4000) - (max (y - 64) 0)) = ((min (y + 64) 4000) - (max (y - 64) 0)) := i64_in (by omega)
  have w6 : IntKind.i64.wrap (y - y) = (y - y) := i64_in (by omega)
  have w7 : IntKind.i64.wrap ((y - y) * 128) = ((y - y) * 128) := i64_in (by omega)
  have w8 : IntKind.i64.wrap (((y - y) * 128).tdiv ((min (x + 64) 4000) - (max (x - 64) 0))) = (((y - y) * 128).tdiv ((min (x + 64) 4000) - (max (x - 64) 0))) := i64_in (by rw [show ((y - y) * 128) = 0 by omega, Int.zero_tdiv]; decide)
  have w9 : IntKind.i64.wrap (((min (y + 64) 4000) - (max (y - 64) 0)) * 128) = (((min (y + 64) 4000) - (max (y - 64) 0)) * 128) := i64_in (by omega)
  have w10 : IntKind.i64.wrap ((((min (y + 64) 4000) - (max (y - 64) 0)) * 128).tdiv ((min (y + 64) 4000) - (max (y - 64) 0))) = ((((min (y + 64) 4000) - (max (y - 64) 0)) * 128).tdiv ((min (y + 64) 4000) - (max (y - 64) 0))) := i64_in (by rw [Int.mul_tdiv_cancel_left _ (show ((min (y + 64) 4000) - (max (y - 64) 0)) ≠ 0 by omega)]; decide)
  simp only [w0, w1, w2, w3, w4, w5, w6, w7, w8, w9, w10]
  rw [show gC lo hi = true from hc, cond_true]
  rw [show gQ x y = true from hq, cond_true]
  rw [show (decide ((max (x - 64) 0) = (min (x + 64) 4000))) = false from decide_eq_false (by omega), cond_false]
  rw [show (true && gQ (max (x - 64) 0) y) = true from by rw [Bool.true_and]; exact decide_eq_true (by omega), cond_true]
  rw [show (true && gQ (min (x + 64) 4000) y) = true from by rw [Bool.true_and]; exact decide_eq_true (by omega), cond_true]
  rw [show (decide (((min (x + 64) 4000) - (max (x - 64) 0)) = 0)) = false from decide_eq_false (by omega), cond_false]
  rw [show (decide ((max (y - 64) 0) = (min (y + 64) 4000))) = false from decide_eq_false (by omega), cond_false]
  rw [show (true && gQ x (max (y - 64) 0)) = true from by rw [Bool.true_and]; exact decide_eq_true (by omega), cond_true]
  rw [show (true && gQ x (min (y + 64) 4000)) = true from by rw [Bool.true_and]; exact decide_eq_true (by omega), cond_true]
  rw [show (decide (((min (y + 64) 4000) - (max (y - 64) 0)) = 0)) = false from decide_eq_false (by omega), cond_false]
  rw [show ((y - y) * 128) = 0 by omega, Int.zero_tdiv, Int.mul_tdiv_cancel_left _ (show ((min (y + 64) 4000) - (max (y - 64) 0)) ≠ 0 by omega)]
noncomputable def o_grad : List PV → Option (Bool × Ret) := fun ps => match ps with
  | [rb, .a [.n .i64 k0, .n .i64 k1, .n .i64 k2, .n .i64 k3, .n .i64 k4, .n .i64 k5, .n .i64 k6, .n .i64 k7, .n .i64 lo, .n .i64 hi], .l [[.n .i64 x], [.n .i64 y]]] => some (eqP 50 rb SL && decide (k0 = 0) && decide (k1 = 1) && decide (k2 = 0) && decide (k3 = 0) && decide (k4 = 0) && decide (k5 = 0) && decide (k6 = 1) && decide (k7 = 0) && gC lo hi && gQ x y, .v (.t [.l [[.n .i64 0], [.n .i64 128]], .b true]))
  | _ => none
theorem ok_grad : OneOk Tryz.prog 115 o_grad := by
  intro ps r h
  unfold o_grad at h
  split at h
  · simp only [Option.some.injEq, Prod.mk.injEq] at h
    obtain ⟨hg, rfl⟩ := h
    simp only [Bool.and_eq_true, decide_eq_true_eq] at hg
    obtain ⟨⟨⟨⟨⟨⟨⟨⟨⟨⟨hrb, ek0⟩, ek1⟩, ek2⟩, ek3⟩, ek4⟩, ek5⟩, ek6⟩, ek7⟩, hc⟩, hq⟩ := hg
    obtain rfl := eqP_eq hrb
    subst ek0 ek1 ek2 ek3 ek4 ek5 ek6 ek7
    exact runK_sound tabOk mixed (OrL.ok L16_ok) (sp_grad hc hq)
  · cases h
noncomputable def L17 : OrL := (115, o_grad) :: L16
theorem L17_ok : AllP (fun x : Nat × (List PV → Option (Bool × Ret)) => OneOk Tryz.prog x.1 x.2) L17 := ⟨ok_grad, L16_ok⟩
theorem mid_fdiv (lo hi : Int) : (lo + hi).fdiv (2 ^ 1) = (lo + hi) / 2 := by rw [Int.fdiv_eq_ediv_of_nonneg _ (by decide)]; rfl
theorem tdiv1 (a : Int) : a.tdiv 1 = a := Int.tdiv_one a
theorem tdiv_128 (e : Int) : (e * 128 * 128).tdiv 16384 = e := by rw [show e * 128 * 128 = e * 16384 by omega]; exact Int.mul_tdiv_cancel _ (by decide)
def nxt (lo hi y : Int) : Int := bif decide (lo ≤ y ∧ y ≤ hi) then y else (lo + hi) / 2
theorem nxt_t {lo hi y : Int} (h : lo ≤ y ∧ y ≤ hi) : nxt lo hi y = y := by unfold nxt; rw [decide_eq_true h, cond_true]
theorem nxt_f {lo hi y : Int} (h : ¬ (lo ≤ y ∧ y ≤ hi)) : nxt lo hi y = (lo + hi) / 2 := by unfold nxt; rw [decide_eq_false h, cond_false]
set_option maxRecDepth 100000 in
theorem tr_step (lo : Int) (hi : Int) (x : Int) (y : Int) : runK T (OrL.k L17) 60 87 [SL, .a [.n .i64 0, .n .i64 1, .n .i64 0, .n .i64 0, .n .i64 0, .n .i64 0, .n .i64 1, .n .i64 0, .n .i64 lo, .n .i64 hi], .l [[.n .i64 x], [.n .i64 y]]] =
  bif gQ x y then (bif (gC lo hi && gB x x y y) then (bif (decide (lo ≤ y ∧ y ≤ hi)) then some (.v (.t [.l [[.n .i64 x], [.n .i64 y]], .b true]), [])
      else bif (gC lo hi && gQ x y) then (bif (gC lo hi && gQ x y) then some (.v (.t [.l [[.n .i64 (min (max (IntKind.i64.wrap (x + (IntKind.i64.wrap ((IntKind.i64.wrap ((min (max (IntKind.i64.wrap ((IntKind.i64.wrap ((IntKind.i64.wrap (((IntKind.i64.wrap (lo + hi)).fdiv (2 ^ 1)) - y)) * 128)).tdiv 1)) (-17592186044416)) 17592186044416) * 0)).tdiv 16384)))) 0) 4000)], [.n .i64 (min (max (IntKind.i64.wrap (y + (IntKind.i64.wrap ((IntKind.i64.wrap ((min (max (IntKind.i64.wrap ((IntKind.i64.wrap ((IntKind.i64.wrap (((IntKind.i64.wrap (lo + hi)).fdiv (2 ^ 1)) - y)) * 128)).tdiv 1)) (-17592186044416)) 17592186044416) * 128)).tdiv 16384)))) 0) 4000)]], .b true]), [])
        else none)
      else none)
    else none)
  else none := by kernel_rfl
theorem sp_step {x y lo hi : Int} (hc : gC lo hi = true) (hq : gQ x y = true) : runK T (OrL.k L17) 60 87 [SL, .a [.n .i64 0, .n .i64 1, .n .i64 0, .n .i64 0, .n .i64 0, .n .i64 0, .n .i64 1, .n .i64 0, .n .i64 lo, .n .i64 hi], .l [[.n .i64 x], [.n .i64 y]]] = some (.v (.t [.l [[.n .i64 x], [.n .i64 (nxt lo hi y)]], .b true]), []) := by
  have q_hc := gC_in hc
  have q_hq := gQ_in hq
  have hcl : min (max (((lo + hi) / 2 - y) * 128) (-17592186044416)) 17592186044416 = ((lo + hi) / 2 - y) * 128 := by omega
  rw [tr_step]
  have w0 : IntKind.i64.wrap (lo + hi) = (lo + hi) := i64_in (by omega)
  have w1 : IntKind.i64.wrap (((lo + hi).fdiv (2 ^ 1)) - y) = (((lo + hi).fdiv (2 ^ 1)) - y) := i64_in (by rw [mid_fdiv]; omega)
  have w2 : IntKind.i64.wrap ((((lo + hi).fdiv (2 ^ 1)) - y) * 128) = ((((lo + hi).fdiv (2 ^ 1)) - y) * 128) := i64_in (by rw [mid_fdiv]; omega)
  have w3 : IntKind.i64.wrap (((((lo + hi).fdiv (2 ^ 1)) - y) * 128).tdiv 1) = (((((lo + hi).fdiv (2 ^ 1)) - y) * 128).tdiv 1) := i64_in (by rw [mid_fdiv, tdiv1]; omega)
  have w4 : IntKind.i64.wrap ((min (max (((((lo + hi).fdiv (2 ^ 1)) - y) * 128).tdiv 1) (-17592186044416)) 17592186044416) * 0) = ((min (max (((((lo + hi).fdiv (2 ^ 1)) - y) * 128).tdiv 1) (-17592186044416)) 17592186044416) * 0) := i64_in (by rw [mid_fdiv, tdiv1, hcl]; omega)
  have w5 : IntKind.i64.wrap (((min (max (((((lo + hi).fdiv (2 ^ 1)) - y) * 128).tdiv 1) (-17592186044416)) 17592186044416) * 0).tdiv 16384) = (((min (max (((((lo + hi).fdiv (2 ^ 1)) - y) * 128).tdiv 1) (-17592186044416)) 17592186044416) * 0).tdiv 16384) := i64_in (by rw [Int.mul_zero, Int.zero_tdiv]; omega)
  have w6 : IntKind.i64.wrap (x + (((min (max (((((lo + hi).fdiv (2 ^ 1)) - y) * 128).tdiv 1) (-17592186044416)) 17592186044416) * 0).tdiv 16384)) = (x + (((min (max (((((lo + hi).fdiv (2 ^ 1)) - y) * 128).tdiv 1) (-17592186044416)) 17592186044416) * 0).tdiv 16384)) := i64_in (by rw [Int.mul_zero, Int.zero_tdiv]; omega)
  have w7 : IntKind.i64.wrap ((min (max (((((lo + hi).fdiv (2 ^ 1)) - y) * 128).tdiv 1) (-17592186044416)) 17592186044416) * 128) = ((min (max (((((lo + hi).fdiv (2 ^ 1)) - y) * 128).tdiv 1) (-17592186044416)) 17592186044416) * 128) := i64_in (by rw [mid_fdiv, tdiv1, hcl]; omega)
  have w8 : IntKind.i64.wrap (((min (max (((((lo + hi).fdiv (2 ^ 1)) - y) * 128).tdiv 1) (-17592186044416)) 17592186044416) * 128).tdiv 16384) = (((min (max (((((lo + hi).fdiv (2 ^ 1)) - y) * 128).tdiv 1) (-17592186044416)) 17592186044416) * 128).tdiv 16384) := i64_in (by rw [mid_fdiv, tdiv1, hcl, tdiv_128]; omega)
  have w9 : IntKind.i64.wrap (y + (((min (max (((((lo + hi).fdiv (2 ^ 1)) - y) * 128).tdiv 1) (-17592186044416)) 17592186044416) * 128).tdiv 16384)) = (y + (((min (max (((((lo + hi).fdiv (2 ^ 1)) - y) * 128).tdiv 1) (-17592186044416)) 17592186044416) * 128).tdiv 16384)) := i64_in (by rw [mid_fdiv, tdiv1, hcl, tdiv_128]; omega)
  simp only [w0, w1, w2, w3, w4, w5, w6, w7, w8, w9]
  rw [show gQ x y = true from hq, cond_true]
  rw [show (gC lo hi && gB x x y y) = true from by rw [hc, Bool.true_and]; exact decide_eq_true (by omega), cond_true]
  by_cases p : lo ≤ y ∧ y ≤ hi
  · rw [show decide (lo ≤ y ∧ y ≤ hi) = true from decide_eq_true p, cond_true, nxt_t p]
  · rw [show decide (lo ≤ y ∧ y ≤ hi) = false from decide_eq_false p, cond_false, show (gC lo hi && true) = true from by rw [hc]; rfl, cond_true, cond_true, Int.mul_zero, Int.zero_tdiv, mid_fdiv, tdiv1, hcl, tdiv_128, nxt_f p, show min (max (x + 0) 0) 4000 = x by omega, show min (max (y + ((lo + hi) / 2 - y)) 0) 4000 = (lo + hi) / 2 by omega]
noncomputable def o_step : List PV → Option (Bool × Ret) := fun ps => match ps with
  | [rb, .a [.n .i64 k0, .n .i64 k1, .n .i64 k2, .n .i64 k3, .n .i64 k4, .n .i64 k5, .n .i64 k6, .n .i64 k7, .n .i64 lo, .n .i64 hi], .l [[.n .i64 x], [.n .i64 y]]] => some (eqP 50 rb SL && decide (k0 = 0) && decide (k1 = 1) && decide (k2 = 0) && decide (k3 = 0) && decide (k4 = 0) && decide (k5 = 0) && decide (k6 = 1) && decide (k7 = 0) && gC lo hi && gQ x y, .v (.t [.l [[.n .i64 x], [.n .i64 (nxt lo hi y)]], .b true]))
  | _ => none
theorem ok_step : OneOk Tryz.prog 87 o_step := by
  intro ps r h
  unfold o_step at h
  split at h
  · simp only [Option.some.injEq, Prod.mk.injEq] at h
    obtain ⟨hg, rfl⟩ := h
    simp only [Bool.and_eq_true, decide_eq_true_eq] at hg
    obtain ⟨⟨⟨⟨⟨⟨⟨⟨⟨⟨hrb, ek0⟩, ek1⟩, ek2⟩, ek3⟩, ek4⟩, ek5⟩, ek6⟩, ek7⟩, hc⟩, hq⟩ := hg
    obtain rfl := eqP_eq hrb
    subst ek0 ek1 ek2 ek3 ek4 ek5 ek6 ek7
    exact runK_sound tabOk mixed (OrL.ok L17_ok) (sp_step hc hq)
  · cases h
noncomputable def L18 : OrL := (87, o_step) :: L17
theorem L18_ok : AllP (fun x : Nat × (List PV → Option (Bool × Ret)) => OneOk Tryz.prog x.1 x.2) L18 := ⟨ok_step, L17_ok⟩
set_option maxRecDepth 100000 in
theorem tr_improved (lo : Int) (hi : Int) (x : Int) (y : Int) : runK T (OrL.k L18) 60 57 [SL, .l [[.n .i64 0, .n .i64 1, .n .i64 0, .n .i64 0, .n .i64 0, .n .i64 0, .n .i64 1, .n .i64 0, .n .i64 lo, .n .i64 hi]], .l [[.n .i64 x], [.n .i64 y]]] =
  bif (gC lo hi && gQ x y) then some (.v (.l [[.n .i64 x], [.n .i64 (nxt lo hi y)]]), [])
  else none := by kernel_rfl
theorem sp_improved {x y lo hi : Int} (hc : gC lo hi = true) (hq : gQ x y = true) : runK T (OrL.k L18) 60 57 [SL, .l [[.n .i64 0, .n .i64 1, .n .i64 0, .n .i64 0, .n .i64 0, .n .i64 0, .n .i64 1, .n .i64 0, .n .i64 lo, .n .i64 hi]], .l [[.n .i64 x], [.n .i64 y]]] = some (.v (.l [[.n .i64 x], [.n .i64 (nxt lo hi y)]]), []) := by
  have q_hc := gC_in hc
  have q_hq := gQ_in hq
  rw [tr_improved]
  rw [show (gC lo hi && gQ x y) = true from by rw [hc, hq]; rfl, cond_true]
  try rfl
noncomputable def o_improved : List PV → Option (Bool × Ret) := fun ps => match ps with
  | [rb, .l [[.n .i64 k0, .n .i64 k1, .n .i64 k2, .n .i64 k3, .n .i64 k4, .n .i64 k5, .n .i64 k6, .n .i64 k7, .n .i64 lo, .n .i64 hi]], .l [[.n .i64 x], [.n .i64 y]]] => some (eqP 50 rb SL && decide (k0 = 0) && decide (k1 = 1) && decide (k2 = 0) && decide (k3 = 0) && decide (k4 = 0) && decide (k5 = 0) && decide (k6 = 1) && decide (k7 = 0) && gC lo hi && gQ x y, .v (.l [[.n .i64 x], [.n .i64 (nxt lo hi y)]]))
  | _ => none
theorem ok_improved : OneOk Tryz.prog 57 o_improved := by
  intro ps r h
  unfold o_improved at h
  split at h
  · simp only [Option.some.injEq, Prod.mk.injEq] at h
    obtain ⟨hg, rfl⟩ := h
    simp only [Bool.and_eq_true, decide_eq_true_eq] at hg
    obtain ⟨⟨⟨⟨⟨⟨⟨⟨⟨⟨hrb, ek0⟩, ek1⟩, ek2⟩, ek3⟩, ek4⟩, ek5⟩, ek6⟩, ek7⟩, hc⟩, hq⟩ := hg
    obtain rfl := eqP_eq hrb
    subst ek0 ek1 ek2 ek3 ek4 ek5 ek6 ek7
    exact runK_sound tabOk mixed (OrL.ok L18_ok) (sp_improved hc hq)
  · cases h
noncomputable def L19 : OrL := (57, o_improved) :: L18
theorem L19_ok : AllP (fun x : Nat × (List PV → Option (Bool × Ret)) => OneOk Tryz.prog x.1 x.2) L19 := ⟨ok_improved, L18_ok⟩
def cnt (lo hi y : Int) : Int := bif decide (lo ≤ y ∧ y ≤ hi) then 0 else 1
theorem cnt_t {lo hi y : Int} (h : lo ≤ y ∧ y ≤ hi) : cnt lo hi y = 0 := by unfold cnt; rw [decide_eq_true h, cond_true]
theorem cnt_f {lo hi y : Int} (h : ¬ (lo ≤ y ∧ y ≤ hi)) : cnt lo hi y = 1 := by unfold cnt; rw [decide_eq_false h, cond_false]
set_option maxRecDepth 100000 in
theorem tr_project (lo : Int) (hi : Int) (x : Int) (y : Int) : runK T (OrL.k L19) 60 26 [SL, .l [[.n .i64 0, .n .i64 1, .n .i64 0, .n .i64 0, .n .i64 0, .n .i64 0, .n .i64 1, .n .i64 0, .n .i64 lo, .n .i64 hi]], .l [[.n .i64 x], [.n .i64 y]], .n .i64 1] =
  bif gC lo hi then (bif gQ x y then (bif gQ x y then (bif (gC lo hi && gB x x y y) then (bif (decide (lo ≤ y ∧ y ≤ hi)) then some (.v (.t [.l [[.n .i64 x], [.n .i64 y]], .n .i64 0, .b true]), [])
          else bif (gC lo hi && gQ x y) then (bif (!decide (x = x)) then (bif gQ x (nxt lo hi y) then (bif (gC lo hi && gB x x (nxt lo hi y) (nxt lo hi y)) then (bif (decide (lo ≤ (nxt lo hi y) ∧ (nxt lo hi y) ≤ hi)) then some (.v (.t [.l [[.n .i64 x], [.n .i64 (nxt lo hi y)]], .n .i64 1, .b true]), [])
                  else some (.v (.t [.l [], .n .i64 1, .b false]), []))
                else none)
              else none)
            else bif (!decide ((nxt lo hi y) = y)) then (bif gQ x (nxt lo hi y) then (bif (gC lo hi && gB x x (nxt lo hi y) (nxt lo hi y)) then (bif (decide (lo ≤ (nxt lo hi y) ∧ (nxt lo hi y) ≤ hi)) then some (.v (.t [.l [[.n .i64 x], [.n .i64 (nxt lo hi y)]], .n .i64 1, .b true]), [])
                  else some (.v (.t [.l [], .n .i64 1, .b false]), []))
                else none)
              else none)
            else some (.v (.t [.l [], .n .i64 1, .b false]), []))
          else none)
        else none)
      else none)
    else none)
  else none := by kernel_rfl
theorem sp_project {x y lo hi : Int} (hc : gC lo hi = true) (hq : gQ x y = true) : runK T (OrL.k L19) 60 26 [SL, .l [[.n .i64 0, .n .i64 1, .n .i64 0, .n .i64 0, .n .i64 0, .n .i64 0, .n .i64 1, .n .i64 0, .n .i64 lo, .n .i64 hi]], .l [[.n .i64 x], [.n .i64 y]], .n .i64 1] = some (.v (.t [.l [[.n .i64 x], [.n .i64 (nxt lo hi y)]], .n .i64 (cnt lo hi y), .b true]), []) := by
  have q_hc := gC_in hc
  have q_hq := gQ_in hq
  rw [tr_project]
  rw [show gC lo hi = true from hc, cond_true]
  rw [show gQ x y = true from hq, cond_true]
  rw [cond_true]
  rw [show (true && gB x x y y) = true from by rw [Bool.true_and]; exact decide_eq_true (by omega), cond_true]
  by_cases p : lo ≤ y ∧ y ≤ hi
  · rw [show decide (lo ≤ y ∧ y ≤ hi) = true from decide_eq_true p, cond_true, nxt_t p, cnt_t p]
  · have hm : lo ≤ (lo + hi) / 2 ∧ (lo + hi) / 2 ≤ hi := by omega
    have hne : ¬ (lo + hi) / 2 = y := fun e => p (by omega)
    rw [show decide (lo ≤ y ∧ y ≤ hi) = false from decide_eq_false p, cond_false, nxt_f p, cnt_f p, show (true && true) = true from rfl, cond_true, show (!decide (x = x)) = false by simp, cond_false, show (!decide ((lo + hi) / 2 = y)) = true by rw [decide_eq_false hne]; rfl, cond_true, show gQ x ((lo + hi) / 2) = true from decide_eq_true (by omega), cond_true, show (true && gB x x ((lo + hi) / 2) ((lo + hi) / 2)) = true by rw [Bool.true_and]; exact decide_eq_true (by omega), cond_true, show decide (lo ≤ (lo + hi) / 2 ∧ (lo + hi) / 2 ≤ hi) = true from decide_eq_true hm, cond_true]
noncomputable def o_project : List PV → Option (Bool × Ret) := fun ps => match ps with
  | [rb, .l [[.n .i64 k0, .n .i64 k1, .n .i64 k2, .n .i64 k3, .n .i64 k4, .n .i64 k5, .n .i64 k6, .n .i64 k7, .n .i64 lo, .n .i64 hi]], .l [[.n .i64 x], [.n .i64 y]], .n .i64 1] => some (eqP 50 rb SL && decide (k0 = 0) && decide (k1 = 1) && decide (k2 = 0) && decide (k3 = 0) && decide (k4 = 0) && decide (k5 = 0) && decide (k6 = 1) && decide (k7 = 0) && gC lo hi && gQ x y, .v (.t [.l [[.n .i64 x], [.n .i64 (nxt lo hi y)]], .n .i64 (cnt lo hi y), .b true]))
  | _ => none
theorem ok_project : OneOk Tryz.prog 26 o_project := by
  intro ps r h
  unfold o_project at h
  split at h
  · simp only [Option.some.injEq, Prod.mk.injEq] at h
    obtain ⟨hg, rfl⟩ := h
    simp only [Bool.and_eq_true, decide_eq_true_eq] at hg
    obtain ⟨⟨⟨⟨⟨⟨⟨⟨⟨⟨hrb, ek0⟩, ek1⟩, ek2⟩, ek3⟩, ek4⟩, ek5⟩, ek6⟩, ek7⟩, hc⟩, hq⟩ := hg
    obtain rfl := eqP_eq hrb
    subst ek0 ek1 ek2 ek3 ek4 ek5 ek6 ek7
    exact runK_sound tabOk mixed (OrL.ok L19_ok) (sp_project hc hq)
  · cases h
noncomputable def L20 : OrL := (26, o_project) :: L19
theorem L20_ok : AllP (fun x : Nat × (List PV → Option (Bool × Ret)) => OneOk Tryz.prog x.1 x.2) L20 := ⟨ok_project, L19_ok⟩
noncomputable def o_mRound : List PV → Option (Bool × Ret) := fun ps => match ps with
  | [.n .i64 n, .n .i64 k] => some (decide (0 < k ∧ k ≤ 9223372036854775807), .v (.n .i64 (n % k)))
  | _ => none
theorem ok_mRound : OneOk Tryz.prog 16 o_mRound := by
  intro ps r h
  unfold o_mRound at h
  split at h
  · simp only [Option.some.injEq, Prod.mk.injEq] at h
    obtain ⟨hg, rfl⟩ := h
    exact snd_of_rets (enters_of Tryz.func16 (by kernel_rfl) (by kernel_rfl)) rfl rfl (fun w => mRound _ _ (of_decide_eq_true hg) w)
  · cases h
noncomputable def L21 : OrL := (16, o_mRound) :: L20
theorem L21_ok : AllP (fun x : Nat × (List PV → Option (Bool × Ret)) => OneOk Tryz.prog x.1 x.2) L21 := ⟨ok_mRound, L20_ok⟩
theorem ok_slider : OneOk Tryz.prog 25 (listed [([.n .i64 2, .n .i64 4000], .v SL)]) := listed_ok (Known.add tabOk mixed (Known.nil _) (N := 60) (by kernel_rfl)) List.mem_cons_self
noncomputable def L22 : OrL := (25, listed [([.n .i64 2, .n .i64 4000], .v SL)]) :: L21
theorem L22_ok : AllP (fun x : Nat × (List PV → Option (Bool × Ret)) => OneOk Tryz.prog x.1 x.2) L22 := ⟨ok_slider, L21_ok⟩
theorem ok_awake : OneOk Tryz.prog 28 (listed [([], .v (.b true))]) := listed_ok (t := [(28, [([], .v (.b true))])]) (fun x hx y hy => by
  obtain rfl := List.mem_singleton.1 hx
  obtain rfl := List.mem_singleton.1 hy
  exact Aw.call) List.mem_cons_self
noncomputable def L23 : OrL := (28, listed [([], .v (.b true))]) :: L22
theorem L23_ok : AllP (fun x : Nat × (List PV → Option (Bool × Ret)) => OneOk Tryz.prog x.1 x.2) L23 := ⟨ok_awake, L22_ok⟩
theorem nxt_in {lo hi : Int} (y : Int) (h : lo ≤ hi) : lo ≤ nxt lo hi y ∧ nxt lo hi y ≤ hi := by
  by_cases p : lo ≤ y ∧ y ≤ hi
  · rw [nxt_t p]; exact p
  · rw [nxt_f p]; omega
theorem cnt_le (lo hi y : Int) : cnt lo hi y ≤ 1 := by
  by_cases p : lo ≤ y ∧ y ≤ hi
  · rw [cnt_t p]; decide
  · rw [cnt_f p]; decide
set_option maxRecDepth 100000 in
theorem tr_law (a : Int) (b : Int) (lo : Int) (wd : Int) : runK T (OrL.k L23) 60 6 [.n .i64 a, .n .i64 b, .n .i64 lo, .n .i64 wd] =
  bif (gC (IntKind.i64.wrap (lo % 3900 + 2)) (IntKind.i64.wrap ((IntKind.i64.wrap (lo % 3900 + 2)) + (IntKind.i64.wrap (2 + wd % 90)))) && gQ (a % 4001) (b % 4001)) then (bif (decide ((cnt (IntKind.i64.wrap (lo % 3900 + 2)) (IntKind.i64.wrap ((IntKind.i64.wrap (lo % 3900 + 2)) + (IntKind.i64.wrap (2 + wd % 90)))) (b % 4001)) ≤ 1)) then (bif (decide ((a % 4001) = a % 4001)) then (bif (decide ((IntKind.i64.wrap (lo % 3900 + 2)) ≤ (nxt (IntKind.i64.wrap (lo % 3900 + 2)) (IntKind.i64.wrap ((IntKind.i64.wrap (lo % 3900 + 2)) + (IntKind.i64.wrap (2 + wd % 90)))) (b % 4001)))) then (bif (decide ((nxt (IntKind.i64.wrap (lo % 3900 + 2)) (IntKind.i64.wrap ((IntKind.i64.wrap (lo % 3900 + 2)) + (IntKind.i64.wrap (2 + wd % 90)))) (b % 4001)) ≤ (IntKind.i64.wrap ((IntKind.i64.wrap (lo % 3900 + 2)) + (IntKind.i64.wrap (2 + wd % 90)))))) then some (.v (.b true), [])
          else some (.v (.b false), []))
        else some (.v (.b false), []))
      else some (.v (.b false), []))
    else some (.v (.b false), []))
  else none := by kernel_rfl
theorem sp_law (a b lo wd : Int) : runK T (OrL.k L23) 60 6 [.n .i64 a, .n .i64 b, .n .i64 lo, .n .i64 wd] = some (.v (.b true), []) := by
  have hn := nxt_in (lo := lo % 3900 + 2) (hi := (lo % 3900 + 2) + (2 + wd % 90)) (b % 4001) (by omega)
  rw [tr_law]
  have w0 : IntKind.i64.wrap (lo % 3900 + 2) = (lo % 3900 + 2) := i64_in (by omega)
  have w1 : IntKind.i64.wrap (2 + wd % 90) = (2 + wd % 90) := i64_in (by omega)
  have w2 : IntKind.i64.wrap ((lo % 3900 + 2) + (2 + wd % 90)) = ((lo % 3900 + 2) + (2 + wd % 90)) := i64_in (by omega)
  simp only [w0, w1, w2]
  rw [show (gC (lo % 3900 + 2) ((lo % 3900 + 2) + (2 + wd % 90)) && gQ (a % 4001) (b % 4001)) = true from by rw [Bool.and_eq_true]; exact ⟨decide_eq_true (by omega), decide_eq_true (by omega)⟩, cond_true]
  rw [show (decide ((cnt (lo % 3900 + 2) ((lo % 3900 + 2) + (2 + wd % 90)) (b % 4001)) ≤ 1)) = true from decide_eq_true (cnt_le _ _ _), cond_true]
  simp only [decide_true, cond_true]
  rw [show (decide ((lo % 3900 + 2) ≤ (nxt (lo % 3900 + 2) ((lo % 3900 + 2) + (2 + wd % 90)) (b % 4001)))) = true from decide_eq_true (by omega), cond_true]
  rw [show (decide ((nxt (lo % 3900 + 2) ((lo % 3900 + 2) + (2 + wd % 90)) (b % 4001)) ≤ ((lo % 3900 + 2) + (2 + wd % 90)))) = true from decide_eq_true (by omega), cond_true]
  try rfl
theorem wHeights (a b lo wd : Int) (w : World) : Calls Tryz.prog 6 [.int .i64 a, .int .i64 b, .int .i64 lo, .int .i64 wd].toArray w (Rets (vB true) w) := rets_of_snd (runK_sound tabOk mixed (OrL.ok L23_ok) (sp_law a b lo wd)) rfl rfl w
end Go.Proofs.YtfoedaolmmadgaaGreat

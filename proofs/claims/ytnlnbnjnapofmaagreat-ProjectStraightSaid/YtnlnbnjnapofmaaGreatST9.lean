/- Part 9 of the texts behind the last one: rules and contracts. No condition. -/
import Derived.Test.YtnlnbnjnapofmaaGreatST8
namespace Go.Proofs.YtnlnbnjnapofmaaGreat
open Go.Rx Rt Go.Sx Go.RowKit
def andI (k : IntKind) (x y : Int) : Int := k.wrap ((BitVec.ofInt k.bits x &&& BitVec.ofInt k.bits y).toNat)
theorem bif_val {β γ : Type} {F : β → γ} {c : Bool} {a b : γ} {f g : β} (h1 : a = F f) (h2 : b = F g) : (bif c then a else b) = F (bif c then f else g) := by cases c <;> assumption
noncomputable def o_mRound : List PV → Option (Bool × Ret) := fun ps => match ps with
  | [.n .i64 n, .n .i64 k] => some (decide (0 < k ∧ k ≤ 9223372036854775807), .v (.n .i64 (n % k)))
  | _ => none
theorem ok_mRound : OneOk Tryz.prog 16 o_mRound := by
  intro ps r h
  unfold o_mRound at h
  split at h
  · simp only [Option.some.injEq, Prod.mk.injEq] at h
    obtain ⟨hg, rfl⟩ := h
    exact snd_of_rets (yW Tryz.func16 (by kernel_rfl) (by kernel_rfl)) rfl rfl (fun w => mRound _ _ (of_decide_eq_true hg) w)
  · cases h
noncomputable def L1 : OrL := (16, o_mRound) :: ([] : OrL)
theorem L1_ok : AllP (fun x : Nat × (List PV → Option (Bool × Ret)) => OneOk Tryz.prog x.1 x.2) L1 := ⟨ok_mRound, trivial⟩
set_option maxRecDepth 100000 in
theorem tr_rUsable (x : Int) (y : Int) (z : Int) : runK T (OrL.k L1) 60 66 [.a [.n .i64 x, .n .i64 y, .n .i64 z]] =
  bif (!((decide (x = 0)) && ((decide (y = 0)) && ((decide (z = 0)) && true)))) then (bif (decide (x < (-16384))) then some (.v (.b false), [])
    else bif (decide (16384 < x)) then some (.v (.b false), [])
    else bif (decide (y < (-16384))) then some (.v (.b false), [])
    else bif (decide (16384 < y)) then some (.v (.b false), [])
    else bif (decide (z < (-16384))) then some (.v (.b false), [])
    else bif (decide (16384 < z)) then some (.v (.b false), [])
    else some (.v (.b true), []))
  else some (.v (.b false), []) := by kernel_rfl
noncomputable def rUse (x y z : Int) : Bool := (bif (!((decide (x = 0)) && ((decide (y = 0)) && ((decide (z = 0)) && true)))) then (bif (decide (x < (-16384))) then false else (bif (decide (16384 < x)) then false else (bif (decide (y < (-16384))) then false else (bif (decide (16384 < y)) then false else (bif (decide (z < (-16384))) then false else (bif (decide (16384 < z)) then false else true)))))) else false)
def F_rUsable : Bool → Option (Ret × Mem) := fun v => some (.v (.b v), [])
theorem sp_rUsable (x y z : Int) : runK T (OrL.k L1) 60 66 [.a [.n .i64 x, .n .i64 y, .n .i64 z]] = some (.v (.b (rUse x y z)), []) := by
  rw [tr_rUsable]
  exact ((bif_val (F := F_rUsable) (bif_val (F := F_rUsable) rfl (bif_val (F := F_rUsable) rfl (bif_val (F := F_rUsable) rfl (bif_val (F := F_rUsable) rfl (bif_val (F := F_rUsable) rfl (bif_val (F := F_rUsable) rfl rfl)))))) rfl) : _ = F_rUsable (rUse x y z))
noncomputable def o_rUsable : List PV → Option (Bool × Ret) := fun ps => match ps with
  | [.a z'] => (z3D z').bind fun z => some (true, .v (.b (rUse z.x z.y z.z)))
  | _ => none
theorem ok_rUsable : OneOk Tryz.prog 66 o_rUsable := by
  intro ps r h
  unfold o_rUsable at h
  split at h
  · simp only [Option.bind_eq_some_iff, Option.some.injEq, Prod.mk.injEq] at h
    obtain ⟨z, hz, hg, rfl⟩ := h
    rw [z3D_eq hz]
    exact jX tabOk mixed (OrL.ok L1_ok) (sp_rUsable _ _ _)
  · cases h
noncomputable def L2 : OrL := (66, o_rUsable) :: L1
theorem L2_ok : AllP (fun x : Nat × (List PV → Option (Bool × Ret)) => OneOk Tryz.prog x.1 x.2) L2 := ⟨ok_rUsable, L1_ok⟩
set_option maxRecDepth 100000 in
theorem tr_mNormal (a : Int) (b : Int) (c : Int) : runK T (OrL.k L2) 60 39 [.n .i64 a, .n .i64 b, .n .i64 c] =
  bif (decide ((andI .i64 a 8) = 8)) then (bif rUse (Z3.mk (IntKind.i64.wrap (a % 32769 - 16384)) (IntKind.i64.wrap (b % 32769 - 16384)) (IntKind.i64.wrap (c % 32769 - 16384))).x (Z3.mk (IntKind.i64.wrap (a % 32769 - 16384)) (IntKind.i64.wrap (b % 32769 - 16384)) (IntKind.i64.wrap (c % 32769 - 16384))).y (Z3.mk (IntKind.i64.wrap (a % 32769 - 16384)) (IntKind.i64.wrap (b % 32769 - 16384)) (IntKind.i64.wrap (c % 32769 - 16384))).z then some (.v (.a [.n .i64 (IntKind.i64.wrap (a % 32769 - 16384)), .n .i64 (IntKind.i64.wrap (b % 32769 - 16384)), .n .i64 (IntKind.i64.wrap (c % 32769 - 16384))]), [])
    else some (.v (.a [.n .i64 1, .n .i64 0, .n .i64 0]), []))
  else bif rUse (Z3.mk (IntKind.i64.wrap (a % 41 - 20)) (IntKind.i64.wrap (b % 41 - 20)) (IntKind.i64.wrap (c % 41 - 20))).x (Z3.mk (IntKind.i64.wrap (a % 41 - 20)) (IntKind.i64.wrap (b % 41 - 20)) (IntKind.i64.wrap (c % 41 - 20))).y (Z3.mk (IntKind.i64.wrap (a % 41 - 20)) (IntKind.i64.wrap (b % 41 - 20)) (IntKind.i64.wrap (c % 41 - 20))).z then some (.v (.a [.n .i64 (IntKind.i64.wrap (a % 41 - 20)), .n .i64 (IntKind.i64.wrap (b % 41 - 20)), .n .i64 (IntKind.i64.wrap (c % 41 - 20))]), [])
  else some (.v (.a [.n .i64 1, .n .i64 0, .n .i64 0]), []) := by kernel_rfl
noncomputable def nrm (a b c : Int) : Z3 := (bif (decide ((andI .i64 a 8) = 8)) then (bif rUse (Z3.mk (IntKind.i64.wrap (a % 32769 - 16384)) (IntKind.i64.wrap (b % 32769 - 16384)) (IntKind.i64.wrap (c % 32769 - 16384))).x (Z3.mk (IntKind.i64.wrap (a % 32769 - 16384)) (IntKind.i64.wrap (b % 32769 - 16384)) (IntKind.i64.wrap (c % 32769 - 16384))).y (Z3.mk (IntKind.i64.wrap (a % 32769 - 16384)) (IntKind.i64.wrap (b % 32769 - 16384)) (IntKind.i64.wrap (c % 32769 - 16384))).z then (Z3.mk (IntKind.i64.wrap (a % 32769 - 16384)) (IntKind.i64.wrap (b % 32769 - 16384)) (IntKind.i64.wrap (c % 32769 - 16384))) else (Z3.mk 1 0 0)) else (bif rUse (Z3.mk (IntKind.i64.wrap (a % 41 - 20)) (IntKind.i64.wrap (b % 41 - 20)) (IntKind.i64.wrap (c % 41 - 20))).x (Z3.mk (IntKind.i64.wrap (a % 41 - 20)) (IntKind.i64.wrap (b % 41 - 20)) (IntKind.i64.wrap (c % 41 - 20))).y (Z3.mk (IntKind.i64.wrap (a % 41 - 20)) (IntKind.i64.wrap (b % 41 - 20)) (IntKind.i64.wrap (c % 41 - 20))).z then (Z3.mk (IntKind.i64.wrap (a % 41 - 20)) (IntKind.i64.wrap (b % 41 - 20)) (IntKind.i64.wrap (c % 41 - 20))) else (Z3.mk 1 0 0)))
def F_mNormal : Z3 → Option (Ret × Mem) := fun v => some (.v (.a (z3C v)), [])
theorem sp_mNormal (a b c : Int) : runK T (OrL.k L2) 60 39 [.n .i64 a, .n .i64 b, .n .i64 c] = some (.v (.a (z3C (nrm a b c))), []) := by
  rw [tr_mNormal]
  exact ((bif_val (F := F_mNormal) (bif_val (F := F_mNormal) rfl rfl) (bif_val (F := F_mNormal) rfl rfl)) : _ = F_mNormal (nrm a b c))
noncomputable def o_mNormal : List PV → Option (Bool × Ret) := fun ps => match ps with
  | [.n .i64 a, .n .i64 b, .n .i64 c] => some (true, .v (.a (z3C (nrm a b c))))
  | _ => none
theorem ok_mNormal : OneOk Tryz.prog 39 o_mNormal := by
  intro ps r h
  unfold o_mNormal at h
  split at h
  · simp only [Option.some.injEq, Prod.mk.injEq] at h
    obtain ⟨hg, rfl⟩ := h
    exact jX tabOk mixed (OrL.ok L2_ok) (sp_mNormal _ _ _)
  · cases h
noncomputable def L3 : OrL := (39, o_mNormal) :: L2
theorem L3_ok : AllP (fun x : Nat × (List PV → Option (Bool × Ret)) => OneOk Tryz.prog x.1 x.2) L3 := ⟨ok_mNormal, L2_ok⟩
end Go.Proofs.YtnlnbnjnapofmaaGreat
namespace Go.Proofs.YtnlnbnjnapofmaaGreat
open Go.Sx
theorem la204 : layoutOf Tryz.prog 204 = some ([.int .i64 0, .int .i64 0, .int .i64 0, .int .i64 0], [(0, 1), (1, 1), (2, 1), (3, 1)]) := by kernel_rfl
theorem ze204 : zeroIs Tryz.prog 204 (.agg #[.int .i64 0, .int .i64 0, .int .i64 0, .int .i64 0]) := by unfold zeroIs; kernel_rfl
theorem ty204 : tyB Tryz.prog 204 true 4 = true := by kernel_rfl
theorem ar204 : arrB Tryz.prog 204 4 1 = true := by kernel_rfl
theorem en172 : Enters Tryz.prog 172 := yW Tryz.func172 (by kernel_rfl) (by kernel_rfl)
theorem ze127 : zeroIs Tryz.prog 127 (.agg #[.int .i64 0, .int .i64 0, .int .i64 0, .int .i64 0, .int .i64 0, .int .i64 0]) := by unfold zeroIs; kernel_rfl
theorem ar29 : arrB Tryz.prog 29 3 1 = true := by kernel_rfl
theorem ar127 : arrB Tryz.prog 127 3 2 = true := by kernel_rfl
theorem ty127 : tyB Tryz.prog 127 true 6 = true := by kernel_rfl
theorem en161 : Enters Tryz.prog 161 := yW Tryz.func161 (by kernel_rfl) (by kernel_rfl)
theorem ze132 : zeroIs Tryz.prog 132 (.agg #[.int .i64 0, .int .i64 0, .int .i64 0, .int .i64 0, .int .i64 0, .int .i64 0, .int .i64 0, .int .i64 0, .int .i64 0, .int .i64 0, .int .i64 0, .int .i64 0, .int .i64 0, .int .i64 0, .int .i64 0, .int .i64 0, .int .i64 0, .int .i64 0]) := by unfold zeroIs; kernel_rfl
theorem ar132 : arrB Tryz.prog 132 3 6 = true := by kernel_rfl
theorem ar126 : arrB Tryz.prog 126 3 2 = true := by kernel_rfl
theorem ty132 : tyB Tryz.prog 132 true 18 = true := by kernel_rfl
theorem la126 : layoutOf Tryz.prog 126 = some ([.int .i64 0, .int .i64 0, .int .i64 0, .int .i64 0, .int .i64 0, .int .i64 0], [(0, 2), (2, 2), (4, 2)]) := by kernel_rfl
theorem la132 : layoutOf Tryz.prog 132 = some ([.int .i64 0, .int .i64 0, .int .i64 0, .int .i64 0, .int .i64 0, .int .i64 0, .int .i64 0, .int .i64 0, .int .i64 0, .int .i64 0, .int .i64 0, .int .i64 0, .int .i64 0, .int .i64 0, .int .i64 0, .int .i64 0, .int .i64 0, .int .i64 0], [(0, 6), (6, 6), (12, 6)]) := by kernel_rfl
theorem en189 : Enters Tryz.prog 189 := yW Tryz.func189 (by kernel_rfl) (by kernel_rfl)
theorem en190 : Enters Tryz.prog 190 := yW Tryz.func190 (by kernel_rfl) (by kernel_rfl)
theorem en162 : Enters Tryz.prog 162 := yW Tryz.func162 (by kernel_rfl) (by kernel_rfl)
theorem iScaled (a : Int) (b : Int) (ha : In64 a) (hb : In64 b) (hc : b ≤ 4611686018427387904) (w : World) : Calls Tryz.prog 172 [.int .i64 a, .int .i64 b].toArray w (Rets (iv (Iv.mk (clampI (a / 65536)) (clampI (ceilI b 65536)))) (w)) := by
  refine yQ (n := 10) Tryz.func172 rfl rfl rfl ?_
  refine qJ ?_
  refine qZ ?_
  refine jZ 4 ze88 rfl rfl rfl ?_; intro b4
  refine qU ?_
  refine qQ ?_
  refine qJ ?_
  refine qZ ?_
  refine qK (qY rfl) rfl rfl rfl ?_
  refine kY (F := vI) (zY en178 rfl (fun w _ => fShiftDown _ _ (by decide) w)) rfl rfl rfl ?_; intro r6 hr6
  refine qK (qY rfl) rfl rfl rfl ?_
  refine kY (F := vI) (zY en179 rfl (fun w _ => fShiftUp _ _ (by decide) hb w)) rfl rfl rfl ?_; intro r8 hr8
  refine kY (F := iv) (zY en120 rfl (fun w _ => iLimited _ _  w)) rfl rfl rfl ?_; intro r9 hr9
  refine zZ 4 ty88 rfl rfl rfl rfl rfl rfl rfl rfl ?_
  refine qU ?_
  refine qQ ?_
  refine yU ?_
  refine zH (rs := [.cell 4 88]) rfl (resC (yY 4 rfl rfl ty88 rfl) (resN)) (congrArg (iv) (?_ : ⟨_, _⟩ = Iv.mk (clampI (a / 65536)) (clampI (ceilI b 65536))))
  subst_vars; rfl
theorem ix4_0 {p0 p1 p2 p3 : Int} : ∀ w : World, (Instr.index 204 (.agg #[.int .i64 p0, .int .i64 p1, .int .i64 p2, .int .i64 p3]) (.int .i64 0)).run Tryz.prog w = .ok (.int .i64 p0) w := fun w => by kernel_rfl
theorem ix4_1 {p0 p1 p2 p3 : Int} : ∀ w : World, (Instr.index 204 (.agg #[.int .i64 p0, .int .i64 p1, .int .i64 p2, .int .i64 p3]) (.int .i64 1)).run Tryz.prog w = .ok (.int .i64 p1) w := fun w => by kernel_rfl
theorem ix4_2 {p0 p1 p2 p3 : Int} : ∀ w : World, (Instr.index 204 (.agg #[.int .i64 p0, .int .i64 p1, .int .i64 p2, .int .i64 p3]) (.int .i64 2)).run Tryz.prog w = .ok (.int .i64 p2) w := fun w => by kernel_rfl
theorem ix4_3 {p0 p1 p2 p3 : Int} : ∀ w : World, (Instr.index 204 (.agg #[.int .i64 p0, .int .i64 p1, .int .i64 p2, .int .i64 p3]) (.int .i64 3)).run Tryz.prog w = .ok (.int .i64 p3) w := fun w => by kernel_rfl
theorem iMul (a0 a1 : Int) (b0 b1 : Int) (w : World) : Calls Tryz.prog 162 [.agg #[.int .i64 a0, .int .i64 a1], .agg #[.int .i64 b0, .int .i64 b1]].toArray w (Rets (iv (Iv.mul (⟨a0, a1⟩ : Iv) (⟨b0, b1⟩ : Iv))) (w)) := by
  refine yQ (n := 54) Tryz.func162 rfl rfl rfl ?_
  refine qJ ?_
  refine qZ ?_
  refine kK 2 rfl rfl rfl rfl ?_; intro b2
  refine kK 3 rfl rfl rfl rfl ?_; intro b3
  refine jZ 4 ze88 rfl rfl rfl ?_; intro b4
  refine qU ?_
  refine qQ ?_
  refine qJ ?_
  refine qJ ?_
  refine qZ ?_
  refine qK (zQ 2 ty88 rfl rfl rfl) rfl rfl rfl ?_
  refine qK (zQ 3 ty88 rfl rfl rfl) rfl rfl rfl ?_
  refine kY (F := vB) (zY en103 rfl (fun w _ => iValid2 _ _ _ _  w)) rfl rfl rfl ?_; intro r12 hr12
  refine qK (opV_not rfl) rfl rfl rfl ?_
  refine qU ?_
  refine qQ ?_
  refine jG rfl (fun hc13 => ?_) (fun hc13 => ?_)
  ·
    refine qJ ?_
    refine qZ ?_
    refine qK (jV la88 rfl rfl) rfl rfl rfl ?_
    refine zZ 4 ty88 rfl rfl rfl rfl rfl rfl rfl rfl ?_
    refine qU ?_
    refine qQ ?_
    refine yU ?_
    refine kQ ?_
    refine zH (rs := [.cell 4 88]) rfl (resC (yY 4 rfl rfl ty88 rfl) (resN)) (congrArg (iv) (?_ : ⟨_, _⟩ = Iv.mul (⟨a0, a1⟩ : Iv) (⟨b0, b1⟩ : Iv)))
    subst_vars; first | (simp_all [Iv.mul, min4, max4]; done) | (simp_all [Iv.mul, min4, max4] <;> omega) | grind [Iv.mul, min4, max4]
  ·
    refine zU ?_
    refine qQ ?_
    refine qJ ?_
    have hv := (hr12.symm.trans (by simpa using hc13))
    rw [Bool.and_eq_true] at hv
    have ha := valid_mk hv.1
    have hb := valid_mk hv.2
    have m1 := mul_bnd (a := a0) (b := b0) (by omega) (by omega)
    have m2 := mul_bnd (a := a0) (b := b1) (by omega) (by omega)
    have m3 := mul_bnd (a := a1) (b := b0) (by omega) (by omega)
    have m4 := mul_bnd (a := a1) (b := b1) (by omega) (by omega)
    refine qZ ?_
    refine qK (qH fa88_0 rfl) rfl rfl rfl ?_
    refine qK (zJ 2 ty2 rfl rfl rfl) rfl rfl rfl ?_
    refine qK (qH fa88_0 rfl) rfl rfl rfl ?_
    refine qK (zJ 3 ty2 rfl rfl rfl) rfl rfl rfl ?_
    refine qK (kZ rfl rfl (by first | exact zG ⟨by omega, by omega⟩ | rfl)) rfl rfl rfl ?_
    refine qK (qH fa88_0 rfl) rfl rfl rfl ?_
    refine qK (zJ 2 ty2 rfl rfl rfl) rfl rfl rfl ?_
    refine qK (qH fa88_1 rfl) rfl rfl rfl ?_
    refine qK (zJ 3 ty2 rfl rfl rfl) rfl rfl rfl ?_
    refine qK (kZ rfl rfl (by first | exact zG ⟨by omega, by omega⟩ | rfl)) rfl rfl rfl ?_
    refine qK (qH fa88_1 rfl) rfl rfl rfl ?_
    refine qK (zJ 2 ty2 rfl rfl rfl) rfl rfl rfl ?_
    refine qK (qH fa88_0 rfl) rfl rfl rfl ?_
    refine qK (zJ 3 ty2 rfl rfl rfl) rfl rfl rfl ?_
    refine qK (kZ rfl rfl (by first | exact zG ⟨by omega, by omega⟩ | rfl)) rfl rfl rfl ?_
    refine qK (qH fa88_1 rfl) rfl rfl rfl ?_
    refine qK (zJ 2 ty2 rfl rfl rfl) rfl rfl rfl ?_
    refine qK (qH fa88_1 rfl) rfl rfl rfl ?_
    refine qK (zJ 3 ty2 rfl rfl rfl) rfl rfl rfl ?_
    refine qK (kZ rfl rfl (by first | exact zG ⟨by omega, by omega⟩ | rfl)) rfl rfl rfl ?_
    refine qK (jV la204 rfl rfl) rfl rfl rfl ?_
    refine jZ 5 ze204 rfl rfl rfl ?_; intro b5
    refine zZ 5 ty204 rfl rfl rfl rfl rfl rfl rfl rfl ?_
    refine qU ?_
    refine qQ ?_
    refine qJ ?_
    refine yX 5 mo (by kernel_rfl) ?_
    simp only [List.take_succ_cons, List.take_zero, List.drop_succ_cons, List.drop_zero]
    refine qG (qX ar204 rfl rfl (by first | decide | omega) (by first | decide | omega)) rfl rfl rfl ?_
    refine qG (zJ 5 ty2 rfl rfl rfl) rfl rfl rfl ?_
    refine qG (qX ar204 rfl rfl (by first | decide | omega) (by first | decide | omega)) rfl rfl rfl ?_
    refine qG (zJ 5 ty2 rfl rfl rfl) rfl rfl rfl ?_
    refine qG (qW rfl) rfl rfl rfl ?_
    refine jK ?_
    refine yV ?_
    refine qK (qW rfl) rfl rfl rfl ?_
    refine qU ?_
    refine qQ ?_
    refine qJ ?_
    refine qJ ?_
    refine qZ ?_
    refine qK (zQ 5 ty204 rfl rfl rfl) rfl rfl rfl ?_
    refine qK (qY rfl) rfl rfl rfl ?_
    refine qU ?_
    refine qQ ?_
    refine zK ?_
    refine kX 5 ?_
    refine yZ ?_
    refine qJ ?_
    refine qZ ?_
    refine qK (yK rfl rfl) rfl rfl rfl ?_
    refine qU ?_
    refine qQ ?_
    refine qJ ?_
    refine zV rfl (by decide) ?_
    refine zU ?_
    refine qQ ?_
    refine qJ ?_
    refine zK ?_
    refine qJ ?_
    refine qZ ?_
    refine qK (opV_index rfl rfl (ix4_0)) rfl rfl rfl ?_
    refine qK (qW rfl) rfl rfl rfl ?_
    refine qU ?_
    refine qQ ?_
    refine qZ ?_
    refine qK (qY rfl) rfl rfl rfl ?_
    refine qK (qY rfl) rfl rfl rfl ?_
    refine qK (opV_min2 rfl rfl) rfl rfl rfl ?_
    refine qK (qY rfl) rfl rfl rfl ?_
    refine qK (qY rfl) rfl rfl rfl ?_
    refine qK (opV_max2 rfl rfl) rfl rfl rfl ?_
    refine qK (qW rfl) rfl rfl rfl ?_
    refine qK (qW rfl) rfl rfl rfl ?_
    refine qU ?_
    refine qV ?_
    refine qQ ?_
    refine qZ ?_
    refine qK (yJ rfl rfl (by first | exact zG ⟨by omega, by omega⟩ | rfl)) rfl rfl rfl ?_
    refine qK (qY rfl) rfl rfl rfl ?_
    refine qU ?_
    refine zW ?_
    refine yZ ?_
    refine qJ ?_
    refine qZ ?_
    refine qK (yK rfl rfl) rfl rfl rfl ?_
    refine qU ?_
    refine qQ ?_
    refine qJ ?_
    refine zV rfl (by decide) ?_
    refine zU ?_
    refine qQ ?_
    refine qJ ?_
    refine zK ?_
    refine qJ ?_
    refine qZ ?_
    refine qK (opV_index rfl rfl (ix4_1)) rfl rfl rfl ?_
    refine qK (qW rfl) rfl rfl rfl ?_
    refine qU ?_
    refine qQ ?_
    refine qZ ?_
    refine qK (qY rfl) rfl rfl rfl ?_
    refine qK (qY rfl) rfl rfl rfl ?_
    refine qK (opV_min2 rfl rfl) rfl rfl rfl ?_
    refine qK (qY rfl) rfl rfl rfl ?_
    refine qK (qY rfl) rfl rfl rfl ?_
    refine qK (opV_max2 rfl rfl) rfl rfl rfl ?_
    refine qK (qW rfl) rfl rfl rfl ?_
    refine qK (qW rfl) rfl rfl rfl ?_
    refine qU ?_
    refine qV ?_
    refine qQ ?_
    refine qZ ?_
    refine qK (yJ rfl rfl (by first | exact zG ⟨by omega, by omega⟩ | rfl)) rfl rfl rfl ?_
    refine qK (qY rfl) rfl rfl rfl ?_
    refine qU ?_
    refine zW ?_
    refine yZ ?_
    refine qJ ?_
    refine qZ ?_
    refine qK (yK rfl rfl) rfl rfl rfl ?_
    refine qU ?_
    refine qQ ?_
    refine qJ ?_
    refine zV rfl (by decide) ?_
    refine zU ?_
    refine qQ ?_
    refine qJ ?_
    refine zK ?_
    refine qJ ?_
    refine qZ ?_
    refine qK (opV_index rfl rfl (ix4_2)) rfl rfl rfl ?_
    refine qK (qW rfl) rfl rfl rfl ?_
    refine qU ?_
    refine qQ ?_
    refine qZ ?_
    refine qK (qY rfl) rfl rfl rfl ?_
    refine qK (qY rfl) rfl rfl rfl ?_
    refine qK (opV_min2 rfl rfl) rfl rfl rfl ?_
    refine qK (qY rfl) rfl rfl rfl ?_
    refine qK (qY rfl) rfl rfl rfl ?_
    refine qK (opV_max2 rfl rfl) rfl rfl rfl ?_
    refine qK (qW rfl) rfl rfl rfl ?_
    refine qK (qW rfl) rfl rfl rfl ?_
    refine qU ?_
    refine qV ?_
    refine qQ ?_
    refine qZ ?_
    refine qK (yJ rfl rfl (by first | exact zG ⟨by omega, by omega⟩ | rfl)) rfl rfl rfl ?_
    refine qK (qY rfl) rfl rfl rfl ?_
    refine qU ?_
    refine zW ?_
    refine yZ ?_
    refine qJ ?_
    refine qZ ?_
    refine qK (yK rfl rfl) rfl rfl rfl ?_
    refine qU ?_
    refine qQ ?_
    refine qJ ?_
    refine zV rfl (by decide) ?_
    refine zU ?_
    refine qQ ?_
    refine qJ ?_
    refine zK ?_
    refine qJ ?_
    refine qZ ?_
    refine qK (opV_index rfl rfl (ix4_3)) rfl rfl rfl ?_
    refine qK (qW rfl) rfl rfl rfl ?_
    refine qU ?_
    refine qQ ?_
    refine qZ ?_
    refine qK (qY rfl) rfl rfl rfl ?_
    refine qK (qY rfl) rfl rfl rfl ?_
    refine qK (opV_min2 rfl rfl) rfl rfl rfl ?_
    refine qK (qY rfl) rfl rfl rfl ?_
    refine qK (qY rfl) rfl rfl rfl ?_
    refine qK (opV_max2 rfl rfl) rfl rfl rfl ?_
    refine qK (qW rfl) rfl rfl rfl ?_
    refine qK (qW rfl) rfl rfl rfl ?_
    refine qU ?_
    refine qV ?_
    refine qQ ?_
    refine qZ ?_
    refine qK (yJ rfl rfl (by first | exact zG ⟨by omega, by omega⟩ | rfl)) rfl rfl rfl ?_
    refine qK (qY rfl) rfl rfl rfl ?_
    refine qU ?_
    refine zW ?_
    refine yZ ?_
    refine qJ ?_
    refine qZ ?_
    refine qK (yK rfl rfl) rfl rfl rfl ?_
    refine qU ?_
    refine qQ ?_
    refine qJ ?_
    refine jW rfl (by decide) ?_
    refine kH ?_
    refine zX ?_
    refine zX ?_
    refine yH ?_
    refine qQ ?_
    refine qJ ?_
    refine qZ ?_
    refine qK (qY rfl) rfl rfl rfl ?_
    refine qK (qY rfl) rfl rfl rfl ?_
    refine kY (F := iv) (zY en172 rfl (fun w _ => iScaled _ _ (by unfold In64; omega) (by unfold In64; omega) (by omega) w)) rfl rfl rfl ?_; intro r53 hr53
    refine zZ 4 ty88 rfl rfl rfl rfl rfl rfl rfl rfl ?_
    refine qU ?_
    refine qQ ?_
    refine yU ?_
    refine zH (rs := [.cell 4 88]) rfl (resC (yY 4 rfl rfl ty88 rfl) (resN)) (congrArg (iv) (?_ : ⟨_, _⟩ = Iv.mul (⟨a0, a1⟩ : Iv) (⟨b0, b1⟩ : Iv)))
    subst_vars; first | (simp_all [Iv.mul, min4, max4]; done) | (simp_all [Iv.mul, min4, max4] <;> omega) | grind [Iv.mul, min4, max4]
theorem mPoint (p0 p1 p2 : Int) (w : World) : Calls Tryz.prog 75 [.agg #[.int .i64 p0, .int .i64 p1, .int .i64 p2]].toArray w (Rets (v3 (V3.of (⟨p0, p1, p2⟩ : Z3))) (w)) := by
  refine yQ (n := 16) Tryz.func75 rfl rfl rfl ?_
  refine qJ ?_
  refine qZ ?_
  refine kK 1 rfl rfl rfl rfl ?_; intro b1
  refine jZ 2 ze127 rfl rfl rfl ?_; intro b2
  refine qU ?_
  refine qQ ?_
  refine qJ ?_
  refine qZ ?_
  refine jZ 3 ze127 rfl rfl rfl ?_; intro b3
  refine qU ?_
  refine qQ ?_
  refine qJ ?_
  refine qJ ?_
  refine qZ ?_
  refine qK (qY rfl) rfl rfl rfl ?_
  refine qU ?_
  refine qQ ?_
  refine zK ?_
  refine kX 4 ?_
  refine yZ ?_
  refine qJ ?_
  refine qZ ?_
  refine qK (yK rfl rfl) rfl rfl rfl ?_
  refine qU ?_
  refine qQ ?_
  refine qJ ?_
  refine zV rfl (by decide) ?_
  refine zU ?_
  refine qQ ?_
  refine qJ ?_
  refine zK ?_
  refine qJ ?_
  refine qZ ?_
  refine qK (qY rfl) rfl rfl rfl ?_
  refine qK (qW rfl) rfl rfl rfl ?_
  refine qU ?_
  refine qQ ?_
  refine qZ ?_
  refine qK (qY rfl) rfl rfl rfl ?_
  refine qK (qY rfl) rfl rfl rfl ?_
  refine qK (qX ar29 rfl rfl (by first | decide | omega) (by first | decide | omega)) rfl rfl rfl ?_
  refine qK (zJ 1 ty2 rfl rfl rfl) rfl rfl rfl ?_
  refine kY (F := iv) (zY en86 rfl (fun w _ => iOf _  w)) rfl rfl rfl ?_; intro r12 hr12
  refine qK (qX ar127 rfl rfl (by first | decide | omega) (by first | decide | omega)) rfl rfl rfl ?_
  refine zZ 3 ty88 rfl rfl rfl rfl rfl rfl rfl rfl ?_
  refine qU ?_
  refine qV ?_
  refine qQ ?_
  refine qZ ?_
  refine qK (yJ rfl rfl (by first | exact zG ⟨by omega, by omega⟩ | rfl)) rfl rfl rfl ?_
  refine qK (qY rfl) rfl rfl rfl ?_
  refine qU ?_
  refine zW ?_
  refine yZ ?_
  refine qJ ?_
  refine qZ ?_
  refine qK (yK rfl rfl) rfl rfl rfl ?_
  refine qU ?_
  refine qQ ?_
  refine qJ ?_
  refine zV rfl (by decide) ?_
  refine zU ?_
  refine qQ ?_
  refine qJ ?_
  refine zK ?_
  refine qJ ?_
  refine qZ ?_
  refine qK (qY rfl) rfl rfl rfl ?_
  refine qK (qW rfl) rfl rfl rfl ?_
  refine qU ?_
  refine qQ ?_
  refine qZ ?_
  refine qK (qY rfl) rfl rfl rfl ?_
  refine qK (qY rfl) rfl rfl rfl ?_
  refine qK (qX ar29 rfl rfl (by first | decide | omega) (by first | decide | omega)) rfl rfl rfl ?_
  refine qK (zJ 1 ty2 rfl rfl rfl) rfl rfl rfl ?_
  refine kY (F := iv) (zY en86 rfl (fun w _ => iOf _  w)) rfl rfl rfl ?_; intro r12_2 hr12_2
  refine qK (qX ar127 rfl rfl (by first | decide | omega) (by first | decide | omega)) rfl rfl rfl ?_
  refine zZ 3 ty88 rfl rfl rfl rfl rfl rfl rfl rfl ?_
  refine qU ?_
  refine qV ?_
  refine qQ ?_
  refine qZ ?_
  refine qK (yJ rfl rfl (by first | exact zG ⟨by omega, by omega⟩ | rfl)) rfl rfl rfl ?_
  refine qK (qY rfl) rfl rfl rfl ?_
  refine qU ?_
  refine zW ?_
  refine yZ ?_
  refine qJ ?_
  refine qZ ?_
  refine qK (yK rfl rfl) rfl rfl rfl ?_
  refine qU ?_
  refine qQ ?_
  refine qJ ?_
  refine zV rfl (by decide) ?_
  refine zU ?_
  refine qQ ?_
  refine qJ ?_
  refine zK ?_
  refine qJ ?_
  refine qZ ?_
  refine qK (qY rfl) rfl rfl rfl ?_
  refine qK (qW rfl) rfl rfl rfl ?_
  refine qU ?_
  refine qQ ?_
  refine qZ ?_
  refine qK (qY rfl) rfl rfl rfl ?_
  refine qK (qY rfl) rfl rfl rfl ?_
  refine qK (qX ar29 rfl rfl (by first | decide | omega) (by first | decide | omega)) rfl rfl rfl ?_
  refine qK (zJ 1 ty2 rfl rfl rfl) rfl rfl rfl ?_
  refine kY (F := iv) (zY en86 rfl (fun w _ => iOf _  w)) rfl rfl rfl ?_; intro r12_3 hr12_3
  refine qK (qX ar127 rfl rfl (by first | decide | omega) (by first | decide | omega)) rfl rfl rfl ?_
  refine zZ 3 ty88 rfl rfl rfl rfl rfl rfl rfl rfl ?_
  refine qU ?_
  refine qV ?_
  refine qQ ?_
  refine qZ ?_
  refine qK (yJ rfl rfl (by first | exact zG ⟨by omega, by omega⟩ | rfl)) rfl rfl rfl ?_
  refine qK (qY rfl) rfl rfl rfl ?_
  refine qU ?_
  refine zW ?_
  refine yZ ?_
  refine qJ ?_
  refine qZ ?_
  refine qK (yK rfl rfl) rfl rfl rfl ?_
  refine qU ?_
  refine qQ ?_
  refine qJ ?_
  refine jW rfl (by decide) ?_
  refine kH ?_
  refine zX ?_
  refine zX ?_
  refine yH ?_
  refine qQ ?_
  refine qJ ?_
  refine qZ ?_
  refine qK (zQ 3 ty127 rfl rfl rfl) rfl rfl rfl ?_
  refine zZ 2 ty127 rfl rfl rfl rfl rfl rfl rfl rfl ?_
  refine qU ?_
  refine qQ ?_
  refine yU ?_
  refine zH (rs := [.cell 2 127]) rfl (resC (yY 2 rfl rfl ty127 rfl) (resN)) (congrArg (v3) (?_ : ⟨⟨_, _⟩, ⟨_, _⟩, ⟨_, _⟩⟩ = V3.of (⟨p0, p1, p2⟩ : Z3)))
  subst_vars; rfl
theorem mAdd (p0 p1 p2 p3 p4 p5 : Int) (q0 q1 q2 q3 q4 q5 : Int) (w : World) : Calls Tryz.prog 170 [.agg #[.int .i64 p0, .int .i64 p1, .int .i64 p2, .int .i64 p3, .int .i64 p4, .int .i64 p5], .agg #[.int .i64 q0, .int .i64 q1, .int .i64 q2, .int .i64 q3, .int .i64 q4, .int .i64 q5]].toArray w (Rets (v3 (V3.add (⟨⟨p0, p1⟩, ⟨p2, p3⟩, ⟨p4, p5⟩⟩ : V3) (⟨⟨q0, q1⟩, ⟨q2, q3⟩, ⟨q4, q5⟩⟩ : V3))) (w)) := by
  refine yQ (n := 21) Tryz.func170 rfl rfl rfl ?_
  refine qJ ?_
  refine qZ ?_
  refine kK 2 rfl rfl rfl rfl ?_; intro b2
  refine kK 3 rfl rfl rfl rfl ?_; intro b3
  refine jZ 4 ze127 rfl rfl rfl ?_; intro b4
  refine qU ?_
  refine qQ ?_
  refine qJ ?_
  refine qZ ?_
  refine jZ 5 ze127 rfl rfl rfl ?_; intro b5
  refine qU ?_
  refine qQ ?_
  refine qJ ?_
  refine qJ ?_
  refine qZ ?_
  refine qK (qY rfl) rfl rfl rfl ?_
  refine qU ?_
  refine qQ ?_
  refine zK ?_
  refine kX 4 ?_
  refine yZ ?_
  refine qJ ?_
  refine qZ ?_
  refine qK (yK rfl rfl) rfl rfl rfl ?_
  refine qU ?_
  refine qQ ?_
  refine qJ ?_
  refine zV rfl (by decide) ?_
  refine zU ?_
  refine qQ ?_
  refine qJ ?_
  refine zK ?_
  refine qJ ?_
  refine qZ ?_
  refine qK (qY rfl) rfl rfl rfl ?_
  refine qK (qW rfl) rfl rfl rfl ?_
  refine qU ?_
  refine qQ ?_
  refine yX 9 mo (by kernel_rfl) ?_
  simp only [List.take_succ_cons, List.take_zero, List.drop_succ_cons, List.drop_zero]
  refine qG (qY rfl) rfl rfl rfl ?_
  refine qG (qY rfl) rfl rfl rfl ?_
  refine qG (qX ar127 rfl rfl (by first | decide | omega) (by first | decide | omega)) rfl rfl rfl ?_
  refine qG (zQ 2 ty88 rfl rfl rfl) rfl rfl rfl ?_
  refine qG (qY rfl) rfl rfl rfl ?_
  refine qG (qX ar127 rfl rfl (by first | decide | omega) (by first | decide | omega)) rfl rfl rfl ?_
  refine qG (zQ 3 ty88 rfl rfl rfl) rfl rfl rfl ?_
  refine yG (F := iv) (zY en161 rfl (fun w _ => iAdd _ _ _ _  w)) rfl rfl rfl ?_; intro r17 hr17
  refine qG (qX ar127 rfl rfl (by first | decide | omega) (by first | decide | omega)) rfl rfl rfl ?_
  refine jK ?_
  refine yV ?_
  refine zZ 5 ty88 rfl rfl rfl rfl rfl rfl rfl rfl ?_
  refine qU ?_
  refine qV ?_
  refine qQ ?_
  refine qZ ?_
  refine qK (yJ rfl rfl (by first | exact zG ⟨by omega, by omega⟩ | rfl)) rfl rfl rfl ?_
  refine qK (qY rfl) rfl rfl rfl ?_
  refine qU ?_
  refine zW ?_
  refine yZ ?_
  refine qJ ?_
  refine qZ ?_
  refine qK (yK rfl rfl) rfl rfl rfl ?_
  refine qU ?_
  refine qQ ?_
  refine qJ ?_
  refine zV rfl (by decide) ?_
  refine zU ?_
  refine qQ ?_
  refine qJ ?_
  refine zK ?_
  refine qJ ?_
  refine qZ ?_
  refine qK (qY rfl) rfl rfl rfl ?_
  refine qK (qW rfl) rfl rfl rfl ?_
  refine qU ?_
  refine qQ ?_
  refine yX 9 mo (by kernel_rfl) ?_
  simp only [List.take_succ_cons, List.take_zero, List.drop_succ_cons, List.drop_zero]
  refine qG (qY rfl) rfl rfl rfl ?_
  refine qG (qY rfl) rfl rfl rfl ?_
  refine qG (qX ar127 rfl rfl (by first | decide | omega) (by first | decide | omega)) rfl rfl rfl ?_
  refine qG (zQ 2 ty88 rfl rfl rfl) rfl rfl rfl ?_
  refine qG (qY rfl) rfl rfl rfl ?_
  refine qG (qX ar127 rfl rfl (by first | decide | omega) (by first | decide | omega)) rfl rfl rfl ?_
  refine qG (zQ 3 ty88 rfl rfl rfl) rfl rfl rfl ?_
  refine yG (F := iv) (zY en161 rfl (fun w _ => iAdd _ _ _ _  w)) rfl rfl rfl ?_; intro r17_2 hr17_2
  refine qG (qX ar127 rfl rfl (by first | decide | omega) (by first | decide | omega)) rfl rfl rfl ?_
  refine jK ?_
  refine yV ?_
  refine zZ 5 ty88 rfl rfl rfl rfl rfl rfl rfl rfl ?_
  refine qU ?_
  refine qV ?_
  refine qQ ?_
  refine qZ ?_
  refine qK (yJ rfl rfl (by first | exact zG ⟨by omega, by omega⟩ | rfl)) rfl rfl rfl ?_
  refine qK (qY rfl) rfl rfl rfl ?_
  refine qU ?_
  refine zW ?_
  refine yZ ?_
  refine qJ ?_
  refine qZ ?_
  refine qK (yK rfl rfl) rfl rfl rfl ?_
  refine qU ?_
  refine qQ ?_
  refine qJ ?_
  refine zV rfl (by decide) ?_
  refine zU ?_
  refine qQ ?_
  refine qJ ?_
  refine zK ?_
  refine qJ ?_
  refine qZ ?_
  refine qK (qY rfl) rfl rfl rfl ?_
  refine qK (qW rfl) rfl rfl rfl ?_
  refine qU ?_
  refine qQ ?_
  refine yX 9 mo (by kernel_rfl) ?_
  simp only [List.take_succ_cons, List.take_zero, List.drop_succ_cons, List.drop_zero]
  refine qG (qY rfl) rfl rfl rfl ?_
  refine qG (qY rfl) rfl rfl rfl ?_
  refine qG (qX ar127 rfl rfl (by first | decide | omega) (by first | decide | omega)) rfl rfl rfl ?_
  refine qG (zQ 2 ty88 rfl rfl rfl) rfl rfl rfl ?_
  refine qG (qY rfl) rfl rfl rfl ?_
  refine qG (qX ar127 rfl rfl (by first | decide | omega) (by first | decide | omega)) rfl rfl rfl ?_
  refine qG (zQ 3 ty88 rfl rfl rfl) rfl rfl rfl ?_
  refine yG (F := iv) (zY en161 rfl (fun w _ => iAdd _ _ _ _  w)) rfl rfl rfl ?_; intro r17_3 hr17_3
  refine qG (qX ar127 rfl rfl (by first | decide | omega) (by first | decide | omega)) rfl rfl rfl ?_
  refine jK ?_
  refine yV ?_
  refine zZ 5 ty88 rfl rfl rfl rfl rfl rfl rfl rfl ?_
  refine qU ?_
  refine qV ?_
  refine qQ ?_
  refine qZ ?_
  refine qK (yJ rfl rfl (by first | exact zG ⟨by omega, by omega⟩ | rfl)) rfl rfl rfl ?_
  refine qK (qY rfl) rfl rfl rfl ?_
  refine qU ?_
  refine zW ?_
  refine yZ ?_
  refine qJ ?_
  refine qZ ?_
  refine qK (yK rfl rfl) rfl rfl rfl ?_
  refine qU ?_
  refine qQ ?_
  refine qJ ?_
  refine jW rfl (by decide) ?_
  refine kH ?_
  refine zX ?_
  refine zX ?_
  refine yH ?_
  refine qQ ?_
  refine qJ ?_
  refine qZ ?_
  refine qK (zQ 5 ty127 rfl rfl rfl) rfl rfl rfl ?_
  refine zZ 4 ty127 rfl rfl rfl rfl rfl rfl rfl rfl ?_
  refine qU ?_
  refine qQ ?_
  refine yU ?_
  refine zH (rs := [.cell 4 127]) rfl (resC (yY 4 rfl rfl ty127 rfl) (resN)) (congrArg (v3) (?_ : ⟨⟨_, _⟩, ⟨_, _⟩, ⟨_, _⟩⟩ = V3.add (⟨⟨p0, p1⟩, ⟨p2, p3⟩, ⟨p4, p5⟩⟩ : V3) (⟨⟨q0, q1⟩, ⟨q2, q3⟩, ⟨q4, q5⟩⟩ : V3)))
  subst_vars; rfl
theorem mIdentity  (w : World) : Calls Tryz.prog 165 [].toArray w (Rets (m3 (M3.unit)) (w)) := by
  refine yQ (n := 13) Tryz.func165 rfl rfl rfl ?_
  refine qJ ?_
  refine qZ ?_
  refine jZ 0 ze132 rfl rfl rfl ?_; intro b0
  refine qU ?_
  refine qQ ?_
  refine qJ ?_
  refine qZ ?_
  refine jZ 1 ze132 rfl rfl rfl ?_; intro b1
  refine qU ?_
  refine qQ ?_
  refine qJ ?_
  refine qJ ?_
  refine qZ ?_
  refine qK (qY rfl) rfl rfl rfl ?_
  refine qU ?_
  refine qQ ?_
  refine zK ?_
  refine kX 4 ?_
  refine yZ ?_
  refine qJ ?_
  refine qZ ?_
  refine qK (yK rfl rfl) rfl rfl rfl ?_
  refine qU ?_
  refine qQ ?_
  refine qJ ?_
  refine zV rfl (by decide) ?_
  refine zU ?_
  refine qQ ?_
  refine qJ ?_
  refine zK ?_
  refine qJ ?_
  refine qZ ?_
  refine qK (qY rfl) rfl rfl rfl ?_
  refine qK (qW rfl) rfl rfl rfl ?_
  refine qU ?_
  refine qQ ?_
  refine yX 5 mo (by kernel_rfl) ?_
  simp only [List.take_succ_cons, List.take_zero, List.drop_succ_cons, List.drop_zero]
  refine qG (qY rfl) rfl rfl rfl ?_
  refine qG (qY rfl) rfl rfl rfl ?_
  refine yG (F := iv) (zY en86 rfl (fun w _ => iOf _  w)) rfl rfl rfl ?_; intro r8 hr8
  refine qG (qX ar132 rfl rfl (by first | decide | omega) (by first | decide | omega)) rfl rfl rfl ?_
  refine qG (qX ar126 rfl rfl (by first | decide | omega) (by first | decide | omega)) rfl rfl rfl ?_
  refine jK ?_
  refine yV ?_
  refine zZ 1 ty88 rfl rfl rfl rfl rfl rfl rfl rfl ?_
  refine qU ?_
  refine qV ?_
  refine qQ ?_
  refine qZ ?_
  refine qK (yJ rfl rfl (by first | exact zG ⟨by omega, by omega⟩ | rfl)) rfl rfl rfl ?_
  refine qK (qY rfl) rfl rfl rfl ?_
  refine qU ?_
  refine zW ?_
  refine yZ ?_
  refine qJ ?_
  refine qZ ?_
  refine qK (yK rfl rfl) rfl rfl rfl ?_
  refine qU ?_
  refine qQ ?_
  refine qJ ?_
  refine zV rfl (by decide) ?_
  refine zU ?_
  refine qQ ?_
  refine qJ ?_
  refine zK ?_
  refine qJ ?_
  refine qZ ?_
  refine qK (qY rfl) rfl rfl rfl ?_
  refine qK (qW rfl) rfl rfl rfl ?_
  refine qU ?_
  refine qQ ?_
  refine yX 5 mo (by kernel_rfl) ?_
  simp only [List.take_succ_cons, List.take_zero, List.drop_succ_cons, List.drop_zero]
  refine qG (qY rfl) rfl rfl rfl ?_
  refine qG (qY rfl) rfl rfl rfl ?_
  refine yG (F := iv) (zY en86 rfl (fun w _ => iOf _  w)) rfl rfl rfl ?_; intro r8_2 hr8_2
  refine qG (qX ar132 rfl rfl (by first | decide | omega) (by first | decide | omega)) rfl rfl rfl ?_
  refine qG (qX ar126 rfl rfl (by first | decide | omega) (by first | decide | omega)) rfl rfl rfl ?_
  refine jK ?_
  refine yV ?_
  refine zZ 1 ty88 rfl rfl rfl rfl rfl rfl rfl rfl ?_
  refine qU ?_
  refine qV ?_
  refine qQ ?_
  refine qZ ?_
  refine qK (yJ rfl rfl (by first | exact zG ⟨by omega, by omega⟩ | rfl)) rfl rfl rfl ?_
  refine qK (qY rfl) rfl rfl rfl ?_
  refine qU ?_
  refine zW ?_
  refine yZ ?_
  refine qJ ?_
  refine qZ ?_
  refine qK (yK rfl rfl) rfl rfl rfl ?_
  refine qU ?_
  refine qQ ?_
  refine qJ ?_
  refine zV rfl (by decide) ?_
  refine zU ?_
  refine qQ ?_
  refine qJ ?_
  refine zK ?_
  refine qJ ?_
  refine qZ ?_
  refine qK (qY rfl) rfl rfl rfl ?_
  refine qK (qW rfl) rfl rfl rfl ?_
  refine qU ?_
  refine qQ ?_
  refine yX 5 mo (by kernel_rfl) ?_
  simp only [List.take_succ_cons, List.take_zero, List.drop_succ_cons, List.drop_zero]
  refine qG (qY rfl) rfl rfl rfl ?_
  refine qG (qY rfl) rfl rfl rfl ?_
  refine yG (F := iv) (zY en86 rfl (fun w _ => iOf _  w)) rfl rfl rfl ?_; intro r8_3 hr8_3
  refine qG (qX ar132 rfl rfl (by first | decide | omega) (by first | decide | omega)) rfl rfl rfl ?_
  refine qG (qX ar126 rfl rfl (by first | decide | omega) (by first | decide | omega)) rfl rfl rfl ?_
  refine jK ?_
  refine yV ?_
  refine zZ 1 ty88 rfl rfl rfl rfl rfl rfl rfl rfl ?_
  refine qU ?_
  refine qV ?_
  refine qQ ?_
  refine qZ ?_
  refine qK (yJ rfl rfl (by first | exact zG ⟨by omega, by omega⟩ | rfl)) rfl rfl rfl ?_
  refine qK (qY rfl) rfl rfl rfl ?_
  refine qU ?_
  refine zW ?_
  refine yZ ?_
  refine qJ ?_
  refine qZ ?_
  refine qK (yK rfl rfl) rfl rfl rfl ?_
  refine qU ?_
  refine qQ ?_
  refine qJ ?_
  refine jW rfl (by decide) ?_
  refine kH ?_
  refine zX ?_
  refine zX ?_
  refine yH ?_
  refine qQ ?_
  refine qJ ?_
  refine qZ ?_
  refine qK (zQ 1 ty132 rfl rfl rfl) rfl rfl rfl ?_
  refine zZ 0 ty132 rfl rfl rfl rfl rfl rfl rfl rfl ?_
  refine qU ?_
  refine qQ ?_
  refine yU ?_
  refine zH (rs := [.cell 0 132]) rfl (resC (yY 0 rfl rfl ty132 rfl) (resN)) (congrArg (m3) (?_ : ⟨⟨⟨_, _⟩, ⟨_, _⟩, ⟨_, _⟩⟩, ⟨⟨_, _⟩, ⟨_, _⟩, ⟨_, _⟩⟩, ⟨⟨_, _⟩, ⟨_, _⟩, ⟨_, _⟩⟩⟩ = M3.unit))
  subst_vars; rfl
theorem mTurn (axis : Int) (a0 a1 : Int) (w : World) : Calls Tryz.prog 183 [.int .i64 axis, .agg #[.int .i64 a0, .int .i64 a1]].toArray w (Rets (m3 (M3.turn axis (⟨a0, a1⟩ : Iv))) (w)) := by
  refine yQ (n := 69) Tryz.func183 rfl rfl rfl ?_
  refine qJ ?_
  refine qZ ?_
  refine kK 3 rfl rfl rfl rfl ?_; intro b3
  refine jZ 4 ze132 rfl rfl rfl ?_; intro b4
  refine qU ?_
  refine qQ ?_
  refine qJ ?_
  refine qJ ?_
  refine qZ ?_
  refine qK (zQ 3 ty88 rfl rfl rfl) rfl rfl rfl ?_
  refine kY (F := vB) (zY en137 rfl (fun w _ => iValid _ _  w)) rfl rfl rfl ?_; intro r11 hr11
  refine qK (opV_not rfl) rfl rfl rfl ?_
  refine qU ?_
  refine qQ ?_
  refine jG rfl (fun hc12 => ?_) (fun hc12 => ?_)
  ·
    refine qJ ?_
    refine qZ ?_
    refine qK (jV la132 rfl rfl) rfl rfl rfl ?_
    refine zZ 4 ty132 rfl rfl rfl rfl rfl rfl rfl rfl ?_
    refine qU ?_
    refine qQ ?_
    refine yU ?_
    refine kQ ?_
    refine zH (rs := [.cell 4 132]) rfl (resC (yY 4 rfl rfl ty132 rfl) (resN)) (congrArg (m3) (?_ : ⟨⟨⟨_, _⟩, ⟨_, _⟩, ⟨_, _⟩⟩, ⟨⟨_, _⟩, ⟨_, _⟩, ⟨_, _⟩⟩, ⟨⟨_, _⟩, ⟨_, _⟩, ⟨_, _⟩⟩⟩ = M3.turn axis (⟨a0, a1⟩ : Iv)))
    subst_vars; simp_all [M3.turn, of_one, of_zero, M3.zero, iv0, iv1]
  ·
    refine zU ?_
    refine qQ ?_
    refine qJ ?_
    refine yX 6 mo (by kernel_rfl) ?_
    simp only [List.take_succ_cons, List.take_zero, List.drop_succ_cons, List.drop_zero]
    refine qG (zQ 3 ty88 rfl rfl rfl) rfl rfl rfl ?_
    refine yG (F := iv) (zY en189 rfl (fun w _ => aCosOver _ _  w)) rfl rfl rfl ?_; intro r15 hr15
    refine qG (zQ 3 ty88 rfl rfl rfl) rfl rfl rfl ?_
    refine yG (F := iv) (zY en190 rfl (fun w _ => aSinOver _ _  w)) rfl rfl rfl ?_; intro r17 hr17
    refine doG_alloc ze88 rfl rfl rfl rfl ?_
    refine doG_alloc ze88 rfl rfl rfl rfl ?_
    refine jK ?_
    refine tail_alloc 6 rfl ?_; intro b6_2
    refine tail_alloc 5 rfl ?_; intro b5_2
    refine yV ?_
    refine zZ 5 ty88 rfl rfl rfl rfl rfl rfl rfl rfl ?_
    refine zZ 6 ty88 rfl rfl rfl rfl rfl rfl rfl rfl ?_
    refine qU ?_
    refine qQ ?_
    refine qJ ?_
    refine qZ ?_
    refine qK (zQ 6 ty88 rfl rfl rfl) rfl rfl rfl ?_
    refine kY (F := iv) (zY en191 rfl (fun w _ => iNeg _ _  w)) rfl rfl rfl ?_; intro r19 hr19
    refine kY (F := iv) (zY en86 rfl (fun w _ => iOf _  w)) rfl rfl rfl ?_; intro r20 hr20
    refine kY (F := iv) (zY en86 rfl (fun w _ => iOf _  w)) rfl rfl rfl ?_; intro r21 hr21
    refine jZ 7 ze88 rfl rfl rfl ?_; intro b7
    refine jZ 8 ze88 rfl rfl rfl ?_; intro b8
    refine jZ 9 ze88 rfl rfl rfl ?_; intro b9
    refine zZ 7 ty88 rfl rfl rfl rfl rfl rfl rfl rfl ?_
    refine zZ 8 ty88 rfl rfl rfl rfl rfl rfl rfl rfl ?_
    refine zZ 9 ty88 rfl rfl rfl rfl rfl rfl rfl rfl ?_
    refine qU ?_
    refine qQ ?_
    refine qJ ?_
    refine qJ ?_
    refine qZ ?_
    refine qK (qY rfl) rfl rfl rfl ?_
    refine qU ?_
    refine qQ ?_
    refine zK ?_
    refine qJ ?_
    refine qZ ?_
    refine qK (uU rfl rfl) rfl rfl rfl ?_
    refine qK (qW rfl) rfl rfl rfl ?_
    refine qU ?_
    refine qQ ?_
    refine jG rfl (fun hc23 => ?_) (fun hc23 => ?_)
    ·
      refine qJ ?_
      refine qZ ?_
      refine qK (zQ 8 ty88 rfl rfl rfl) rfl rfl rfl ?_
      refine qK (zQ 9 ty88 rfl rfl rfl) rfl rfl rfl ?_
      refine qK (zQ 9 ty88 rfl rfl rfl) rfl rfl rfl ?_
      refine qK (jV la126 rfl rfl) rfl rfl rfl ?_
      refine qK (zQ 9 ty88 rfl rfl rfl) rfl rfl rfl ?_
      refine qK (zQ 5 ty88 rfl rfl rfl) rfl rfl rfl ?_
      refine qK (zQ 7 ty88 rfl rfl rfl) rfl rfl rfl ?_
      refine qK (jV la126 rfl rfl) rfl rfl rfl ?_
      refine qK (zQ 9 ty88 rfl rfl rfl) rfl rfl rfl ?_
      refine qK (zQ 6 ty88 rfl rfl rfl) rfl rfl rfl ?_
      refine qK (zQ 5 ty88 rfl rfl rfl) rfl rfl rfl ?_
      refine qK (jV la126 rfl rfl) rfl rfl rfl ?_
      refine qK (jV la132 rfl rfl) rfl rfl rfl ?_
      refine zZ 4 ty132 rfl rfl rfl rfl rfl rfl rfl rfl ?_
      refine qU ?_
      refine qQ ?_
      refine yU ?_
      refine kJ ?_
      refine kQ ?_
      refine zH (rs := [.cell 4 132]) rfl (resC (yY 4 rfl rfl ty132 rfl) (resN)) (congrArg (m3) (?_ : ⟨⟨⟨_, _⟩, ⟨_, _⟩, ⟨_, _⟩⟩, ⟨⟨_, _⟩, ⟨_, _⟩, ⟨_, _⟩⟩, ⟨⟨_, _⟩, ⟨_, _⟩, ⟨_, _⟩⟩⟩ = M3.turn axis (⟨a0, a1⟩ : Iv)))
      subst_vars; simp_all [M3.turn, of_one, of_zero, M3.zero, iv0, iv1]
    ·
      refine qJ ?_
      refine qZ ?_
      refine qK (uU rfl rfl) rfl rfl rfl ?_
      refine qK (qW rfl) rfl rfl rfl ?_
      refine qU ?_
      refine qQ ?_
      refine jG rfl (fun hc38 => ?_) (fun hc38 => ?_)
      ·
        refine qJ ?_
        refine qZ ?_
        refine qK (zQ 5 ty88 rfl rfl rfl) rfl rfl rfl ?_
        refine qK (zQ 9 ty88 rfl rfl rfl) rfl rfl rfl ?_
        refine qK (zQ 6 ty88 rfl rfl rfl) rfl rfl rfl ?_
        refine qK (jV la126 rfl rfl) rfl rfl rfl ?_
        refine qK (zQ 9 ty88 rfl rfl rfl) rfl rfl rfl ?_
        refine qK (zQ 8 ty88 rfl rfl rfl) rfl rfl rfl ?_
        refine qK (zQ 9 ty88 rfl rfl rfl) rfl rfl rfl ?_
        refine qK (jV la126 rfl rfl) rfl rfl rfl ?_
        refine qK (zQ 7 ty88 rfl rfl rfl) rfl rfl rfl ?_
        refine qK (zQ 9 ty88 rfl rfl rfl) rfl rfl rfl ?_
        refine qK (zQ 5 ty88 rfl rfl rfl) rfl rfl rfl ?_
        refine qK (jV la126 rfl rfl) rfl rfl rfl ?_
        refine qK (jV la132 rfl rfl) rfl rfl rfl ?_
        refine zZ 4 ty132 rfl rfl rfl rfl rfl rfl rfl rfl ?_
        refine qU ?_
        refine qQ ?_
        refine yU ?_
        refine kJ ?_
        refine kQ ?_
        refine zH (rs := [.cell 4 132]) rfl (resC (yY 4 rfl rfl ty132 rfl) (resN)) (congrArg (m3) (?_ : ⟨⟨⟨_, _⟩, ⟨_, _⟩, ⟨_, _⟩⟩, ⟨⟨_, _⟩, ⟨_, _⟩, ⟨_, _⟩⟩, ⟨⟨_, _⟩, ⟨_, _⟩, ⟨_, _⟩⟩⟩ = M3.turn axis (⟨a0, a1⟩ : Iv)))
        subst_vars; simp_all [M3.turn, of_one, of_zero, M3.zero, iv0, iv1]
      ·
        refine qJ ?_
        refine qZ ?_
        refine qK (uU rfl rfl) rfl rfl rfl ?_
        refine qK (qW rfl) rfl rfl rfl ?_
        refine qU ?_
        refine qQ ?_
        refine jG rfl (fun hc53 => ?_) (fun hc53 => ?_)
        ·
          refine qJ ?_
          refine qZ ?_
          refine qK (zQ 5 ty88 rfl rfl rfl) rfl rfl rfl ?_
          refine qK (zQ 7 ty88 rfl rfl rfl) rfl rfl rfl ?_
          refine qK (zQ 9 ty88 rfl rfl rfl) rfl rfl rfl ?_
          refine qK (jV la126 rfl rfl) rfl rfl rfl ?_
          refine qK (zQ 6 ty88 rfl rfl rfl) rfl rfl rfl ?_
          refine qK (zQ 5 ty88 rfl rfl rfl) rfl rfl rfl ?_
          refine qK (zQ 9 ty88 rfl rfl rfl) rfl rfl rfl ?_
          refine qK (jV la126 rfl rfl) rfl rfl rfl ?_
          refine qK (zQ 9 ty88 rfl rfl rfl) rfl rfl rfl ?_
          refine qK (zQ 9 ty88 rfl rfl rfl) rfl rfl rfl ?_
          refine qK (zQ 8 ty88 rfl rfl rfl) rfl rfl rfl ?_
          refine qK (jV la126 rfl rfl) rfl rfl rfl ?_
          refine qK (jV la132 rfl rfl) rfl rfl rfl ?_
          refine zZ 4 ty132 rfl rfl rfl rfl rfl rfl rfl rfl ?_
          refine qU ?_
          refine qQ ?_
          refine yU ?_
          refine kJ ?_
          refine kQ ?_
          refine zH (rs := [.cell 4 132]) rfl (resC (yY 4 rfl rfl ty132 rfl) (resN)) (congrArg (m3) (?_ : ⟨⟨⟨_, _⟩, ⟨_, _⟩, ⟨_, _⟩⟩, ⟨⟨_, _⟩, ⟨_, _⟩, ⟨_, _⟩⟩, ⟨⟨_, _⟩, ⟨_, _⟩, ⟨_, _⟩⟩⟩ = M3.turn axis (⟨a0, a1⟩ : Iv)))
          subst_vars; simp_all [M3.turn, of_one, of_zero, M3.zero, iv0, iv1]
        ·
          refine zU ?_
          refine qV ?_
          refine qQ ?_
          refine qJ ?_
          refine qZ ?_
          refine qK (jV la132 rfl rfl) rfl rfl rfl ?_
          refine zZ 4 ty132 rfl rfl rfl rfl rfl rfl rfl rfl ?_
          refine qU ?_
          refine qQ ?_
          refine yU ?_
          refine zH (rs := [.cell 4 132]) rfl (resC (yY 4 rfl rfl ty132 rfl) (resN)) (congrArg (m3) (?_ : ⟨⟨⟨_, _⟩, ⟨_, _⟩, ⟨_, _⟩⟩, ⟨⟨_, _⟩, ⟨_, _⟩, ⟨_, _⟩⟩, ⟨⟨_, _⟩, ⟨_, _⟩, ⟨_, _⟩⟩⟩ = M3.turn axis (⟨a0, a1⟩ : Iv)))
          subst_vars; simp_all [M3.turn, of_one, of_zero, M3.zero, iv0, iv1]
set_option maxRecDepth 100000 in
theorem mApply (p0 p1 p2 p3 p4 p5 p6 p7 p8 p9 p10 p11 p12 p13 p14 p15 p16 p17 : Int) (q0 q1 q2 q3 q4 q5 : Int) (w : World) : Calls Tryz.prog 142 [.agg #[.int .i64 p0, .int .i64 p1, .int .i64 p2, .int .i64 p3, .int .i64 p4, .int .i64 p5, .int .i64 p6, .int .i64 p7, .int .i64 p8, .int .i64 p9, .int .i64 p10, .int .i64 p11, .int .i64 p12, .int .i64 p13, .int .i64 p14, .int .i64 p15, .int .i64 p16, .int .i64 p17], .agg #[.int .i64 q0, .int .i64 q1, .int .i64 q2, .int .i64 q3, .int .i64 q4, .int .i64 q5]].toArray w (Rets (v3 (M3.apply (⟨⟨⟨p0, p1⟩, ⟨p2, p3⟩, ⟨p4, p5⟩⟩, ⟨⟨p6, p7⟩, ⟨p8, p9⟩, ⟨p10, p11⟩⟩, ⟨⟨p12, p13⟩, ⟨p14, p15⟩, ⟨p16, p17⟩⟩⟩ : M3) (⟨⟨q0, q1⟩, ⟨q2, q3⟩, ⟨q4, q5⟩⟩ : V3))) (w)) := by
  refine yQ (n := 32) Tryz.func142 rfl rfl rfl ?_
  refine qJ ?_
  refine qZ ?_
  refine kK 2 rfl rfl rfl rfl ?_; intro b2
  refine kK 3 rfl rfl rfl rfl ?_; intro b3
  refine jZ 4 ze127 rfl rfl rfl ?_; intro b4
  refine qU ?_
  refine qQ ?_
  refine qJ ?_
  refine qZ ?_
  refine jZ 5 ze127 rfl rfl rfl ?_; intro b5
  refine qU ?_
  refine qQ ?_
  refine qJ ?_
  refine qJ ?_
  refine qZ ?_
  refine qK (qY rfl) rfl rfl rfl ?_
  refine qU ?_
  refine qQ ?_
  refine zK ?_
  refine kX 4 ?_
  refine yZ ?_
  refine qJ ?_
  refine qZ ?_
  refine qK (yK rfl rfl) rfl rfl rfl ?_
  refine qU ?_
  refine qQ ?_
  refine qJ ?_
  refine zV rfl (by decide) ?_
  refine zU ?_
  refine qQ ?_
  refine qJ ?_
  refine zK ?_
  refine qJ ?_
  refine qZ ?_
  refine qK (qY rfl) rfl rfl rfl ?_
  refine qK (qW rfl) rfl rfl rfl ?_
  refine qU ?_
  refine qQ ?_
  refine qJ ?_
  refine qZ ?_
  refine qK (qY rfl) rfl rfl rfl ?_
  refine qU ?_
  refine qQ ?_
  refine zK ?_
  refine kX 4 ?_
  refine yZ ?_
  refine qJ ?_
  refine qZ ?_
  refine qK (yK rfl rfl) rfl rfl rfl ?_
  refine qU ?_
  refine qQ ?_
  refine qJ ?_
  refine zV rfl (by decide) ?_
  refine zU ?_
  refine qQ ?_
  refine qJ ?_
  refine zK ?_
  refine qJ ?_
  refine qZ ?_
  refine qK (qY rfl) rfl rfl rfl ?_
  refine qK (qW rfl) rfl rfl rfl ?_
  refine qU ?_
  refine qQ ?_
  refine jY (ks := [2, 3, 4, 5, 6, 7, 8, 11]) rfl ?_
  refine yX 15 mo (by kernel_rfl) ?_
  simp only [List.take_succ_cons, List.take_zero, List.drop_succ_cons, List.drop_zero]
  refine qG (qY rfl) rfl rfl rfl ?_
  refine qG (qY rfl) rfl rfl rfl ?_
  refine qG (qX ar127 rfl rfl (by first | decide | omega) (by first | decide | omega)) rfl rfl rfl ?_
  refine qG (zQ 5 ty88 rfl rfl rfl) rfl rfl rfl ?_
  refine qG (qY rfl) rfl rfl rfl ?_
  refine qG (qY rfl) rfl rfl rfl ?_
  refine qG (qX ar132 rfl rfl (by first | decide | omega) (by first | decide | omega)) rfl rfl rfl ?_
  refine qG (qX ar126 rfl rfl (by first | decide | omega) (by first | decide | omega)) rfl rfl rfl ?_
  refine qG (zQ 2 ty88 rfl rfl rfl) rfl rfl rfl ?_
  refine qG (qY rfl) rfl rfl rfl ?_
  refine qG (qX ar127 rfl rfl (by first | decide | omega) (by first | decide | omega)) rfl rfl rfl ?_
  refine qG (zQ 3 ty88 rfl rfl rfl) rfl rfl rfl ?_
  refine yG (F := iv) (zY en162 rfl (fun w _ => iMul _ _ _ _  w)) rfl rfl rfl ?_; intro r26 hr26
  refine yG (F := iv) (zY en161 rfl (fun w _ => iAdd _ _ _ _  w)) rfl rfl rfl ?_; intro r27 hr27
  refine qG (qX ar127 rfl rfl (by first | decide | omega) (by first | decide | omega)) rfl rfl rfl ?_
  refine jK ?_
  refine yV ?_
  refine zZ 5 ty88 rfl rfl rfl rfl rfl rfl rfl rfl ?_
  refine qU ?_
  refine qV ?_
  refine qQ ?_
  refine qZ ?_
  refine qK (yJ rfl rfl (by first | exact zG ⟨by omega, by omega⟩ | rfl)) rfl rfl rfl ?_
  refine qK (qY rfl) rfl rfl rfl ?_
  refine qU ?_
  refine zW ?_
  refine yZ ?_
  refine qJ ?_
  refine qZ ?_
  refine qK (yK rfl rfl) rfl rfl rfl ?_
  refine qU ?_
  refine qQ ?_
  refine qJ ?_
  refine zV rfl (by decide) ?_
  refine zU ?_
  refine qQ ?_
  refine qJ ?_
  refine zK ?_
  refine qJ ?_
  refine qZ ?_
  refine qK (qY rfl) rfl rfl rfl ?_
  refine qK (qW rfl) rfl rfl rfl ?_
  refine qU ?_
  refine qQ ?_
  refine jY (ks := [2, 3, 4, 5, 6, 7, 8, 11]) rfl ?_
  refine yX 15 mo (by kernel_rfl) ?_
  simp only [List.take_succ_cons, List.take_zero, List.drop_succ_cons, List.drop_zero]
  refine qG (qY rfl) rfl rfl rfl ?_
  refine qG (qY rfl) rfl rfl rfl ?_
  refine qG (qX ar127 rfl rfl (by first | decide | omega) (by first | decide | omega)) rfl rfl rfl ?_
  refine qG (zQ 5 ty88 rfl rfl rfl) rfl rfl rfl ?_
  refine qG (qY rfl) rfl rfl rfl ?_
  refine qG (qY rfl) rfl rfl rfl ?_
  refine qG (qX ar132 rfl rfl (by first | decide | omega) (by first | decide | omega)) rfl rfl rfl ?_
  refine qG (qX ar126 rfl rfl (by first | decide | omega) (by first | decide | omega)) rfl rfl rfl ?_
  refine qG (zQ 2 ty88 rfl rfl rfl) rfl rfl rfl ?_
  refine qG (qY rfl) rfl rfl rfl ?_
  refine qG (qX ar127 rfl rfl (by first | decide | omega) (by first | decide | omega)) rfl rfl rfl ?_
  refine qG (zQ 3 ty88 rfl rfl rfl) rfl rfl rfl ?_
  refine yG (F := iv) (zY en162 rfl (fun w _ => iMul _ _ _ _  w)) rfl rfl rfl ?_; intro r26_2 hr26_2
  refine yG (F := iv) (zY en161 rfl (fun w _ => iAdd _ _ _ _  w)) rfl rfl rfl ?_; intro r27_2 hr27_2
  refine qG (qX ar127 rfl rfl (by first | decide | omega) (by first | decide | omega)) rfl rfl rfl ?_
  refine jK ?_
  refine yV ?_
  refine zZ 5 ty88 rfl rfl rfl rfl rfl rfl rfl rfl ?_
  refine qU ?_
  refine qV ?_
  refine qQ ?_
  refine qZ ?_
  refine qK (yJ rfl rfl (by first | exact zG ⟨by omega, by omega⟩ | rfl)) rfl rfl rfl ?_
  refine qK (qY rfl) rfl rfl rfl ?_
  refine qU ?_
  refine zW ?_
  refine yZ ?_
  refine qJ ?_
  refine qZ ?_
  refine qK (yK rfl rfl) rfl rfl rfl ?_
  refine qU ?_
  refine qQ ?_
  refine qJ ?_
  refine zV rfl (by decide) ?_
  refine zU ?_
  refine qQ ?_
  refine qJ ?_
  refine zK ?_
  refine qJ ?_
  refine qZ ?_
  refine qK (qY rfl) rfl rfl rfl ?_
  refine qK (qW rfl) rfl rfl rfl ?_
  refine qU ?_
  refine qQ ?_
  refine jY (ks := [2, 3, 4, 5, 6, 7, 8, 11]) rfl ?_
  refine yX 15 mo (by kernel_rfl) ?_
  simp only [List.take_succ_cons, List.take_zero, List.drop_succ_cons, List.drop_zero]
  refine qG (qY rfl) rfl rfl rfl ?_
  refine qG (qY rfl) rfl rfl rfl ?_
  refine qG (qX ar127 rfl rfl (by first | decide | omega) (by first | decide | omega)) rfl rfl rfl ?_
  refine qG (zQ 5 ty88 rfl rfl rfl) rfl rfl rfl ?_
  refine qG (qY rfl) rfl rfl rfl ?_
  refine qG (qY rfl) rfl rfl rfl ?_
  refine qG (qX ar132 rfl rfl (by first | decide | omega) (by first | decide | omega)) rfl rfl rfl ?_
  refine qG (qX ar126 rfl rfl (by first | decide | omega) (by first | decide | omega)) rfl rfl rfl ?_
  refine qG (zQ 2 ty88 rfl rfl rfl) rfl rfl rfl ?_
  refine qG (qY rfl) rfl rfl rfl ?_
  refine qG (qX ar127 rfl rfl (by first | decide | omega) (by first | decide | omega)) rfl rfl rfl ?_
  refine qG (zQ 3 ty88 rfl rfl rfl) rfl rfl rfl ?_
  refine yG (F := iv) (zY en162 rfl (fun w _ => iMul _ _ _ _  w)) rfl rfl rfl ?_; intro r26_3 hr26_3
  refine yG (F := iv) (zY en161 rfl (fun w _ => iAdd _ _ _ _  w)) rfl rfl rfl ?_; intro r27_3 hr27_3
  refine qG (qX ar127 rfl rfl (by first | decide | omega) (by first | decide | omega)) rfl rfl rfl ?_
  refine jK ?_
  refine yV ?_
  refine zZ 5 ty88 rfl rfl rfl rfl rfl rfl rfl rfl ?_
  refine qU ?_
  refine qV ?_
  refine qQ ?_
  refine qZ ?_
  refine qK (yJ rfl rfl (by first | exact zG ⟨by omega, by omega⟩ | rfl)) rfl rfl rfl ?_
  refine qK (qY rfl) rfl rfl rfl ?_
  refine qU ?_
  refine zW ?_
  refine yZ ?_
  refine qJ ?_
  refine qZ ?_
  refine qK (yK rfl rfl) rfl rfl rfl ?_
  refine qU ?_
  refine qQ ?_
  refine qJ ?_
  refine jW rfl (by decide) ?_
  refine kH ?_
  refine zX ?_
  refine zX ?_
  refine yH ?_
  refine qV ?_
  refine qQ ?_
  refine qZ ?_
  refine qK (yJ rfl rfl (by first | exact zG ⟨by omega, by omega⟩ | rfl)) rfl rfl rfl ?_
  refine qK (qY rfl) rfl rfl rfl ?_
  refine qU ?_
  refine zW ?_
  refine yZ ?_
  refine qJ ?_
  refine qZ ?_
  refine qK (yK rfl rfl) rfl rfl rfl ?_
  refine qU ?_
  refine qQ ?_
  refine qJ ?_
  refine zV rfl (by decide) ?_
  refine zU ?_
  refine qQ ?_
  refine qJ ?_
  refine zK ?_
  refine qJ ?_
  refine qZ ?_
  refine qK (qY rfl) rfl rfl rfl ?_
  refine qK (qW rfl) rfl rfl rfl ?_
  refine qU ?_
  refine qQ ?_
  refine qJ ?_
  refine qZ ?_
  refine qK (qY rfl) rfl rfl rfl ?_
  refine qU ?_
  refine qQ ?_
  refine zK ?_
  refine kX 4 ?_
  refine yZ ?_
  refine qJ ?_
  refine qZ ?_
  refine qK (yK rfl rfl) rfl rfl rfl ?_
  refine qU ?_
  refine qQ ?_
  refine qJ ?_
  refine zV rfl (by decide) ?_
  refine zU ?_
  refine qQ ?_
  refine qJ ?_
  refine zK ?_
  refine qJ ?_
  refine qZ ?_
  refine qK (qY rfl) rfl rfl rfl ?_
  refine qK (qW rfl) rfl rfl rfl ?_
  refine qU ?_
  refine qQ ?_
  refine jY (ks := [2, 3, 4, 5, 6, 7, 8, 11]) rfl ?_
  refine yX 15 mo (by kernel_rfl) ?_
  simp only [List.take_succ_cons, List.take_zero, List.drop_succ_cons, List.drop_zero]
  refine qG (qY rfl) rfl rfl rfl ?_
  refine qG (qY rfl) rfl rfl rfl ?_
  refine qG (qX ar127 rfl rfl (by first | decide | omega) (by first | decide | omega)) rfl rfl rfl ?_
  refine qG (zQ 5 ty88 rfl rfl rfl) rfl rfl rfl ?_
  refine qG (qY rfl) rfl rfl rfl ?_
  refine qG (qY rfl) rfl rfl rfl ?_
  refine qG (qX ar132 rfl rfl (by first | decide | omega) (by first | decide | omega)) rfl rfl rfl ?_
  refine qG (qX ar126 rfl rfl (by first | decide | omega) (by first | decide | omega)) rfl rfl rfl ?_
  refine qG (zQ 2 ty88 rfl rfl rfl) rfl rfl rfl ?_
  refine qG (qY rfl) rfl rfl rfl ?_
  refine qG (qX ar127 rfl rfl (by first | decide | omega) (by first | decide | omega)) rfl rfl rfl ?_
  refine qG (zQ 3 ty88 rfl rfl rfl) rfl rfl rfl ?_
  refine yG (F := iv) (zY en162 rfl (fun w _ => iMul _ _ _ _  w)) rfl rfl rfl ?_; intro r26_4 hr26_4
  refine yG (F := iv) (zY en161 rfl (fun w _ => iAdd _ _ _ _  w)) rfl rfl rfl ?_; intro r27_4 hr27_4
  refine qG (qX ar127 rfl rfl (by first | decide | omega) (by first | decide | omega)) rfl rfl rfl ?_
  refine jK ?_
  refine yV ?_
  refine zZ 5 ty88 rfl rfl rfl rfl rfl rfl rfl rfl ?_
  refine qU ?_
  refine qV ?_
  refine qQ ?_
  refine qZ ?_
  refine qK (yJ rfl rfl (by first | exact zG ⟨by omega, by omega⟩ | rfl)) rfl rfl rfl ?_
  refine qK (qY rfl) rfl rfl rfl ?_
  refine qU ?_
  refine zW ?_
  refine yZ ?_
  refine qJ ?_
  refine qZ ?_
  refine qK (yK rfl rfl) rfl rfl rfl ?_
  refine qU ?_
  refine qQ ?_
  refine qJ ?_
  refine zV rfl (by decide) ?_
  refine zU ?_
  refine qQ ?_
  refine qJ ?_
  refine zK ?_
  refine qJ ?_
  refine qZ ?_
  refine qK (qY rfl) rfl rfl rfl ?_
  refine qK (qW rfl) rfl rfl rfl ?_
  refine qU ?_
  refine qQ ?_
  refine jY (ks := [2, 3, 4, 5, 6, 7, 8, 11]) rfl ?_
  refine yX 15 mo (by kernel_rfl) ?_
  simp only [List.take_succ_cons, List.take_zero, List.drop_succ_cons, List.drop_zero]
  refine qG (qY rfl) rfl rfl rfl ?_
  refine qG (qY rfl) rfl rfl rfl ?_
  refine qG (qX ar127 rfl rfl (by first | decide | omega) (by first | decide | omega)) rfl rfl rfl ?_
  refine qG (zQ 5 ty88 rfl rfl rfl) rfl rfl rfl ?_
  refine qG (qY rfl) rfl rfl rfl ?_
  refine qG (qY rfl) rfl rfl rfl ?_
  refine qG (qX ar132 rfl rfl (by first | decide | omega) (by first | decide | omega)) rfl rfl rfl ?_
  refine qG (qX ar126 rfl rfl (by first | decide | omega) (by first | decide | omega)) rfl rfl rfl ?_
  refine qG (zQ 2 ty88 rfl rfl rfl) rfl rfl rfl ?_
  refine qG (qY rfl) rfl rfl rfl ?_
  refine qG (qX ar127 rfl rfl (by first | decide | omega) (by first | decide | omega)) rfl rfl rfl ?_
  refine qG (zQ 3 ty88 rfl rfl rfl) rfl rfl rfl ?_
  refine yG (F := iv) (zY en162 rfl (fun w _ => iMul _ _ _ _  w)) rfl rfl rfl ?_; intro r26_5 hr26_5
  refine yG (F := iv) (zY en161 rfl (fun w _ => iAdd _ _ _ _  w)) rfl rfl rfl ?_; intro r27_5 hr27_5
  refine qG (qX ar127 rfl rfl (by first | decide | omega) (by first | decide | omega)) rfl rfl rfl ?_
  refine jK ?_
  refine yV ?_
  refine zZ 5 ty88 rfl rfl rfl rfl rfl rfl rfl rfl ?_
  refine qU ?_
  refine qV ?_
  refine qQ ?_
  refine qZ ?_
  refine qK (yJ rfl rfl (by first | exact zG ⟨by omega, by omega⟩ | rfl)) rfl rfl rfl ?_
  refine qK (qY rfl) rfl rfl rfl ?_
  refine qU ?_
  refine zW ?_
  refine yZ ?_
  refine qJ ?_
  refine qZ ?_
  refine qK (yK rfl rfl) rfl rfl rfl ?_
  refine qU ?_
  refine qQ ?_
  refine qJ ?_
  refine zV rfl (by decide) ?_
  refine zU ?_
  refine qQ ?_
  refine qJ ?_
  refine zK ?_
  refine qJ ?_
  refine qZ ?_
  refine qK (qY rfl) rfl rfl rfl ?_
  refine qK (qW rfl) rfl rfl rfl ?_
  refine qU ?_
  refine qQ ?_
  refine jY (ks := [2, 3, 4, 5, 6, 7, 8, 11]) rfl ?_
  refine yX 15 mo (by kernel_rfl) ?_
  simp only [List.take_succ_cons, List.take_zero, List.drop_succ_cons, List.drop_zero]
  refine qG (qY rfl) rfl rfl rfl ?_
  refine qG (qY rfl) rfl rfl rfl ?_
  refine qG (qX ar127 rfl rfl (by first | decide | omega) (by first | decide | omega)) rfl rfl rfl ?_
  refine qG (zQ 5 ty88 rfl rfl rfl) rfl rfl rfl ?_
  refine qG (qY rfl) rfl rfl rfl ?_
  refine qG (qY rfl) rfl rfl rfl ?_
  refine qG (qX ar132 rfl rfl (by first | decide | omega) (by first | decide | omega)) rfl rfl rfl ?_
  refine qG (qX ar126 rfl rfl (by first | decide | omega) (by first | decide | omega)) rfl rfl rfl ?_
  refine qG (zQ 2 ty88 rfl rfl rfl) rfl rfl rfl ?_
  refine qG (qY rfl) rfl rfl rfl ?_
  refine qG (qX ar127 rfl rfl (by first | decide | omega) (by first | decide | omega)) rfl rfl rfl ?_
  refine qG (zQ 3 ty88 rfl rfl rfl) rfl rfl rfl ?_
  refine yG (F := iv) (zY en162 rfl (fun w _ => iMul _ _ _ _  w)) rfl rfl rfl ?_; intro r26_6 hr26_6
  refine yG (F := iv) (zY en161 rfl (fun w _ => iAdd _ _ _ _  w)) rfl rfl rfl ?_; intro r27_6 hr27_6
  refine qG (qX ar127 rfl rfl (by first | decide | omega) (by first | decide | omega)) rfl rfl rfl ?_
  refine jK ?_
  refine yV ?_
  refine zZ 5 ty88 rfl rfl rfl rfl rfl rfl rfl rfl ?_
  refine qU ?_
  refine qV ?_
  refine qQ ?_
  refine qZ ?_
  refine qK (yJ rfl rfl (by first | exact zG ⟨by omega, by omega⟩ | rfl)) rfl rfl rfl ?_
  refine qK (qY rfl) rfl rfl rfl ?_
  refine qU ?_
  refine zW ?_
  refine yZ ?_
  refine qJ ?_
  refine qZ ?_
  refine qK (yK rfl rfl) rfl rfl rfl ?_
  refine qU ?_
  refine qQ ?_
  refine qJ ?_
  refine jW rfl (by decide) ?_
  refine kH ?_
  refine zX ?_
  refine zX ?_
  refine yH ?_
  refine qV ?_
  refine qQ ?_
  refine qZ ?_
  refine qK (yJ rfl rfl (by first | exact zG ⟨by omega, by omega⟩ | rfl)) rfl rfl rfl ?_
  refine qK (qY rfl) rfl rfl rfl ?_
  refine qU ?_
  refine zW ?_
  refine yZ ?_
  refine qJ ?_
  refine qZ ?_
  refine qK (yK rfl rfl) rfl rfl rfl ?_
  refine qU ?_
  refine qQ ?_
  refine qJ ?_
  refine zV rfl (by decide) ?_
  refine zU ?_
  refine qQ ?_
  refine qJ ?_
  refine zK ?_
  refine qJ ?_
  refine qZ ?_
  refine qK (qY rfl) rfl rfl rfl ?_
  refine qK (qW rfl) rfl rfl rfl ?_
  refine qU ?_
  refine qQ ?_
  refine qJ ?_
  refine qZ ?_
  refine qK (qY rfl) rfl rfl rfl ?_
  refine qU ?_
  refine qQ ?_
  refine zK ?_
  refine kX 4 ?_
  refine yZ ?_
  refine qJ ?_
  refine qZ ?_
  refine qK (yK rfl rfl) rfl rfl rfl ?_
  refine qU ?_
  refine qQ ?_
  refine qJ ?_
  refine zV rfl (by decide) ?_
  refine zU ?_
  refine qQ ?_
  refine qJ ?_
  refine zK ?_
  refine qJ ?_
  refine qZ ?_
  refine qK (qY rfl) rfl rfl rfl ?_
  refine qK (qW rfl) rfl rfl rfl ?_
  refine qU ?_
  refine qQ ?_
  refine jY (ks := [2, 3, 4, 5, 6, 7, 8, 11]) rfl ?_
  refine yX 15 mo (by kernel_rfl) ?_
  simp only [List.take_succ_cons, List.take_zero, List.drop_succ_cons, List.drop_zero]
  refine qG (qY rfl) rfl rfl rfl ?_
  refine qG (qY rfl) rfl rfl rfl ?_
  refine qG (qX ar127 rfl rfl (by first | decide | omega) (by first | decide | omega)) rfl rfl rfl ?_
  refine qG (zQ 5 ty88 rfl rfl rfl) rfl rfl rfl ?_
  refine qG (qY rfl) rfl rfl rfl ?_
  refine qG (qY rfl) rfl rfl rfl ?_
  refine qG (qX ar132 rfl rfl (by first | decide | omega) (by first | decide | omega)) rfl rfl rfl ?_
  refine qG (qX ar126 rfl rfl (by first | decide | omega) (by first | decide | omega)) rfl rfl rfl ?_
  refine qG (zQ 2 ty88 rfl rfl rfl) rfl rfl rfl ?_
  refine qG (qY rfl) rfl rfl rfl ?_
  refine qG (qX ar127 rfl rfl (by first | decide | omega) (by first | decide | omega)) rfl rfl rfl ?_
  refine qG (zQ 3 ty88 rfl rfl rfl) rfl rfl rfl ?_
  refine yG (F := iv) (zY en162 rfl (fun w _ => iMul _ _ _ _  w)) rfl rfl rfl ?_; intro r26_7 hr26_7
  refine yG (F := iv) (zY en161 rfl (fun w _ => iAdd _ _ _ _  w)) rfl rfl rfl ?_; intro r27_7 hr27_7
  refine qG (qX ar127 rfl rfl (by first | decide | omega) (by first | decide | omega)) rfl rfl rfl ?_
  refine jK ?_
  refine yV ?_
  refine zZ 5 ty88 rfl rfl rfl rfl rfl rfl rfl rfl ?_
  refine qU ?_
  refine qV ?_
  refine qQ ?_
  refine qZ ?_
  refine qK (yJ rfl rfl (by first | exact zG ⟨by omega, by omega⟩ | rfl)) rfl rfl rfl ?_
  refine qK (qY rfl) rfl rfl rfl ?_
  refine qU ?_
  refine zW ?_
  refine yZ ?_
  refine qJ ?_
  refine qZ ?_
  refine qK (yK rfl rfl) rfl rfl rfl ?_
  refine qU ?_
  refine qQ ?_
  refine qJ ?_
  refine zV rfl (by decide) ?_
  refine zU ?_
  refine qQ ?_
  refine qJ ?_
  refine zK ?_
  refine qJ ?_
  refine qZ ?_
  refine qK (qY rfl) rfl rfl rfl ?_
  refine qK (qW rfl) rfl rfl rfl ?_
  refine qU ?_
  refine qQ ?_
  refine jY (ks := [2, 3, 4, 5, 6, 7, 8, 11]) rfl ?_
  refine yX 15 mo (by kernel_rfl) ?_
  simp only [List.take_succ_cons, List.take_zero, List.drop_succ_cons, List.drop_zero]
  refine qG (qY rfl) rfl rfl rfl ?_
  refine qG (qY rfl) rfl rfl rfl ?_
  refine qG (qX ar127 rfl rfl (by first | decide | omega) (by first | decide | omega)) rfl rfl rfl ?_
  refine qG (zQ 5 ty88 rfl rfl rfl) rfl rfl rfl ?_
  refine qG (qY rfl) rfl rfl rfl ?_
  refine qG (qY rfl) rfl rfl rfl ?_
  refine qG (qX ar132 rfl rfl (by first | decide | omega) (by first | decide | omega)) rfl rfl rfl ?_
  refine qG (qX ar126 rfl rfl (by first | decide | omega) (by first | decide | omega)) rfl rfl rfl ?_
  refine qG (zQ 2 ty88 rfl rfl rfl) rfl rfl rfl ?_
  refine qG (qY rfl) rfl rfl rfl ?_
  refine qG (qX ar127 rfl rfl (by first | decide | omega) (by first | decide | omega)) rfl rfl rfl ?_
  refine qG (zQ 3 ty88 rfl rfl rfl) rfl rfl rfl ?_
  refine yG (F := iv) (zY en162 rfl (fun w _ => iMul _ _ _ _  w)) rfl rfl rfl ?_; intro r26_8 hr26_8
  refine yG (F := iv) (zY en161 rfl (fun w _ => iAdd _ _ _ _  w)) rfl rfl rfl ?_; intro r27_8 hr27_8
  refine qG (qX ar127 rfl rfl (by first | decide | omega) (by first | decide | omega)) rfl rfl rfl ?_
  refine jK ?_
  refine yV ?_
  refine zZ 5 ty88 rfl rfl rfl rfl rfl rfl rfl rfl ?_
  refine qU ?_
  refine qV ?_
  refine qQ ?_
  refine qZ ?_
  refine qK (yJ rfl rfl (by first | exact zG ⟨by omega, by omega⟩ | rfl)) rfl rfl rfl ?_
  refine qK (qY rfl) rfl rfl rfl ?_
  refine qU ?_
  refine zW ?_
  refine yZ ?_
  refine qJ ?_
  refine qZ ?_
  refine qK (yK rfl rfl) rfl rfl rfl ?_
  refine qU ?_
  refine qQ ?_
  refine qJ ?_
  refine zV rfl (by decide) ?_
  refine zU ?_
  refine qQ ?_
  refine qJ ?_
  refine zK ?_
  refine qJ ?_
  refine qZ ?_
  refine qK (qY rfl) rfl rfl rfl ?_
  refine qK (qW rfl) rfl rfl rfl ?_
  refine qU ?_
  refine qQ ?_
  refine jY (ks := [2, 3, 4, 5, 6, 7, 8, 11]) rfl ?_
  refine yX 15 mo (by kernel_rfl) ?_
  simp only [List.take_succ_cons, List.take_zero, List.drop_succ_cons, List.drop_zero]
  refine qG (qY rfl) rfl rfl rfl ?_
  refine qG (qY rfl) rfl rfl rfl ?_
  refine qG (qX ar127 rfl rfl (by first | decide | omega) (by first | decide | omega)) rfl rfl rfl ?_
  refine qG (zQ 5 ty88 rfl rfl rfl) rfl rfl rfl ?_
  refine qG (qY rfl) rfl rfl rfl ?_
  refine qG (qY rfl) rfl rfl rfl ?_
  refine qG (qX ar132 rfl rfl (by first | decide | omega) (by first | decide | omega)) rfl rfl rfl ?_
  refine qG (qX ar126 rfl rfl (by first | decide | omega) (by first | decide | omega)) rfl rfl rfl ?_
  refine qG (zQ 2 ty88 rfl rfl rfl) rfl rfl rfl ?_
  refine qG (qY rfl) rfl rfl rfl ?_
  refine qG (qX ar127 rfl rfl (by first | decide | omega) (by first | decide | omega)) rfl rfl rfl ?_
  refine qG (zQ 3 ty88 rfl rfl rfl) rfl rfl rfl ?_
  refine yG (F := iv) (zY en162 rfl (fun w _ => iMul _ _ _ _  w)) rfl rfl rfl ?_; intro r26_9 hr26_9
  refine yG (F := iv) (zY en161 rfl (fun w _ => iAdd _ _ _ _  w)) rfl rfl rfl ?_; intro r27_9 hr27_9
  refine qG (qX ar127 rfl rfl (by first | decide | omega) (by first | decide | omega)) rfl rfl rfl ?_
  refine jK ?_
  refine yV ?_
  refine zZ 5 ty88 rfl rfl rfl rfl rfl rfl rfl rfl ?_
  refine qU ?_
  refine qV ?_
  refine qQ ?_
  refine qZ ?_
  refine qK (yJ rfl rfl (by first | exact zG ⟨by omega, by omega⟩ | rfl)) rfl rfl rfl ?_
  refine qK (qY rfl) rfl rfl rfl ?_
  refine qU ?_
  refine zW ?_
  refine yZ ?_
  refine qJ ?_
  refine qZ ?_
  refine qK (yK rfl rfl) rfl rfl rfl ?_
  refine qU ?_
  refine qQ ?_
  refine qJ ?_
  refine jW rfl (by decide) ?_
  refine kH ?_
  refine zX ?_
  refine zX ?_
  refine yH ?_
  refine qV ?_
  refine qQ ?_
  refine qZ ?_
  refine qK (yJ rfl rfl (by first | exact zG ⟨by omega, by omega⟩ | rfl)) rfl rfl rfl ?_
  refine qK (qY rfl) rfl rfl rfl ?_
  refine qU ?_
  refine zW ?_
  refine yZ ?_
  refine qJ ?_
  refine qZ ?_
  refine qK (yK rfl rfl) rfl rfl rfl ?_
  refine qU ?_
  refine qQ ?_
  refine qJ ?_
  refine jW rfl (by decide) ?_
  refine kH ?_
  refine zX ?_
  refine zX ?_
  refine yH ?_
  refine qQ ?_
  refine qJ ?_
  refine qZ ?_
  refine qK (zQ 5 ty127 rfl rfl rfl) rfl rfl rfl ?_
  refine zZ 4 ty127 rfl rfl rfl rfl rfl rfl rfl rfl ?_
  refine qU ?_
  refine qQ ?_
  refine yU ?_
  refine zH (rs := [.cell 4 127]) rfl (resC (yY 4 rfl rfl ty127 rfl) (resN)) (congrArg (v3) (?_ : ⟨⟨_, _⟩, ⟨_, _⟩, ⟨_, _⟩⟩ = M3.apply (⟨⟨⟨p0, p1⟩, ⟨p2, p3⟩, ⟨p4, p5⟩⟩, ⟨⟨p6, p7⟩, ⟨p8, p9⟩, ⟨p10, p11⟩⟩, ⟨⟨p12, p13⟩, ⟨p14, p15⟩, ⟨p16, p17⟩⟩⟩ : M3) (⟨⟨q0, q1⟩, ⟨q2, q3⟩, ⟨q4, q5⟩⟩ : V3)))
  subst_vars; simp only [add_zero_mul']; rfl
theorem mLimited (x : Int) (w : World) : Calls Tryz.prog 171 [.int .i64 x].toArray w (Rets (vI (limI x)) (w)) := by
  refine yQ (n := 6) Tryz.func171 rfl rfl rfl ?_
  refine qJ ?_
  refine qZ ?_
  refine qK (qW rfl) rfl rfl rfl ?_
  refine qU ?_
  refine qQ ?_
  refine qJ ?_
  refine qZ ?_
  refine qK (qY rfl) rfl rfl rfl ?_
  refine qK (opV_max2 rfl rfl) rfl rfl rfl ?_
  refine qK (opV_min2 rfl rfl) rfl rfl rfl ?_
  refine qK (qW rfl) rfl rfl rfl ?_
  refine qU ?_
  refine qQ ?_
  refine yU ?_
  refine zH (rs := [.tmp 2]) rfl (resC (jU rfl) (resN)) (congrArg (vI) (?_ : _ = limI x))
  rfl
end Go.Proofs.YtnlnbnjnapofmaaGreat

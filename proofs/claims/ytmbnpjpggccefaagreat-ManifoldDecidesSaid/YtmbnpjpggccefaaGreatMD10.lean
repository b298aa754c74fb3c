/- Part 10 of the texts behind the last one: rules and contracts. No condition. -/
import Derived.Test.YtmbnpjpggccefaaGreatMD9
namespace Go.Proofs.YtmbnpjpggccefaaGreat
open Go.Sx
theorem la189 : qZW Tryz.prog 189 = some ([.int .i64 0, .int .i64 0, .int .i64 0, .int .i64 0], [(0, 1), (1, 1), (2, 1), (3, 1)]) := by kernel_rfl
theorem ze189 : qZY Tryz.prog 189 (.agg #[.int .i64 0, .int .i64 0, .int .i64 0, .int .i64 0]) := by unfold qZY; kernel_rfl
theorem ty189 : tyB Tryz.prog 189 true 4 = true := by kernel_rfl
theorem ar189 : arrB Tryz.prog 189 4 1 = true := by kernel_rfl
theorem en160 : yG Tryz.prog 160 := zZ Tryz.func160 (by kernel_rfl) (by kernel_rfl)
theorem ze75 : qZY Tryz.prog 75 (.agg #[.int .i64 0, .int .i64 0, .int .i64 0, .int .i64 0, .int .i64 0, .int .i64 0]) := by unfold qZY; kernel_rfl
theorem ar39 : arrB Tryz.prog 39 3 1 = true := by kernel_rfl
theorem ar75 : arrB Tryz.prog 75 3 2 = true := by kernel_rfl
theorem ty75 : tyB Tryz.prog 75 true 6 = true := by kernel_rfl
theorem la75 : qZW Tryz.prog 75 = some ([.int .i64 0, .int .i64 0, .int .i64 0, .int .i64 0, .int .i64 0, .int .i64 0], [(0, 2), (2, 2), (4, 2)]) := by kernel_rfl
theorem en142 : yG Tryz.prog 142 := zZ Tryz.func142 (by kernel_rfl) (by kernel_rfl)
theorem en103 : yG Tryz.prog 103 := zZ Tryz.func103 (by kernel_rfl) (by kernel_rfl)
theorem ze74 : qZY Tryz.prog 74 (.agg #[.int .i64 0, .int .i64 0, .int .i64 0, .int .i64 0, .int .i64 0, .int .i64 0, .int .i64 0, .int .i64 0, .int .i64 0, .int .i64 0, .int .i64 0, .int .i64 0, .int .i64 0, .int .i64 0, .int .i64 0, .int .i64 0, .int .i64 0, .int .i64 0]) := by unfold qZY; kernel_rfl
theorem ar74 : arrB Tryz.prog 74 3 6 = true := by kernel_rfl
theorem ar72 : arrB Tryz.prog 72 3 2 = true := by kernel_rfl
theorem ty74 : tyB Tryz.prog 74 true 18 = true := by kernel_rfl
theorem la72 : qZW Tryz.prog 72 = some ([.int .i64 0, .int .i64 0, .int .i64 0, .int .i64 0, .int .i64 0, .int .i64 0], [(0, 2), (2, 2), (4, 2)]) := by kernel_rfl
theorem la74 : qZW Tryz.prog 74 = some ([.int .i64 0, .int .i64 0, .int .i64 0, .int .i64 0, .int .i64 0, .int .i64 0, .int .i64 0, .int .i64 0, .int .i64 0, .int .i64 0, .int .i64 0, .int .i64 0, .int .i64 0, .int .i64 0, .int .i64 0, .int .i64 0, .int .i64 0, .int .i64 0], [(0, 6), (6, 6), (12, 6)]) := by kernel_rfl
theorem en169 : yG Tryz.prog 169 := zZ Tryz.func169 (by kernel_rfl) (by kernel_rfl)
theorem en170 : yG Tryz.prog 170 := zZ Tryz.func170 (by kernel_rfl) (by kernel_rfl)
theorem en163 : yG Tryz.prog 163 := zZ Tryz.func163 (by kernel_rfl) (by kernel_rfl)
theorem en164 : yG Tryz.prog 164 := zZ Tryz.func164 (by kernel_rfl) (by kernel_rfl)
theorem iScaled (a : Int) (b : Int) (ha : In64 a) (hb : In64 b) (hc : b ≤ 4611686018427387904) (w : World) : Calls Tryz.prog 160 [.int .i64 a, .int .i64 b].toArray w (Rets (iv (Iv.mk (qJX (a / 65536)) (qJX (ceilI b 65536)))) (w)) := by
 refine zK (n := 10) Tryz.func160 rfl rfl rfl ?_
 refine qK ?_
 refine qZ ?_
 refine yK 4 ze71 rfl rfl rfl ?_; intro b4
 refine qJ ?_
 refine qQ ?_
 refine qK ?_
 refine qZ ?_
 refine qY (qU rfl) rfl rfl rfl ?_
 refine jG (F := vI) (zY en167 rfl (fun w _ => fShiftDown _ _ (by decide) w)) rfl rfl rfl ?_; intro r6 hr6
 refine qY (qU rfl) rfl rfl rfl ?_
 refine jG (F := vI) (zY en168 rfl (fun w _ => fShiftUp _ _ (by decide) hb w)) rfl rfl rfl ?_; intro r8 hr8
 refine jG (F := iv) (zY en145 rfl (fun w _ => iLimited _ _  w)) rfl rfl rfl ?_; intro r9 hr9
 refine qG 4 ty71 rfl rfl rfl rfl rfl rfl rfl rfl ?_
 refine qJ ?_
 refine qQ ?_
 refine zV ?_
 refine zQ (rs := [.cell 4 71]) rfl (resC (zJ 4 rfl rfl ty71 rfl) (resN)) (congrArg (iv) (?_ : ⟨_, _⟩ = Iv.mk (qJX (a / 65536)) (qJX (ceilI b 65536))))
 subst_vars; rfl
theorem ix4_0 {p0 p1 p2 p3 : Int} : ∀ w : World, (Instr.index 189 (.agg #[.int .i64 p0, .int .i64 p1, .int .i64 p2, .int .i64 p3]) (.int .i64 0)).run Tryz.prog w = .ok (.int .i64 p0) w := fun w => by kernel_rfl
theorem ix4_1 {p0 p1 p2 p3 : Int} : ∀ w : World, (Instr.index 189 (.agg #[.int .i64 p0, .int .i64 p1, .int .i64 p2, .int .i64 p3]) (.int .i64 1)).run Tryz.prog w = .ok (.int .i64 p1) w := fun w => by kernel_rfl
theorem ix4_2 {p0 p1 p2 p3 : Int} : ∀ w : World, (Instr.index 189 (.agg #[.int .i64 p0, .int .i64 p1, .int .i64 p2, .int .i64 p3]) (.int .i64 2)).run Tryz.prog w = .ok (.int .i64 p2) w := fun w => by kernel_rfl
theorem ix4_3 {p0 p1 p2 p3 : Int} : ∀ w : World, (Instr.index 189 (.agg #[.int .i64 p0, .int .i64 p1, .int .i64 p2, .int .i64 p3]) (.int .i64 3)).run Tryz.prog w = .ok (.int .i64 p3) w := fun w => by kernel_rfl
theorem iMul (a0 a1 : Int) (b0 b1 : Int) (w : World) : Calls Tryz.prog 143 [.agg #[.int .i64 a0, .int .i64 a1], .agg #[.int .i64 b0, .int .i64 b1]].toArray w (Rets (iv (Iv.mul (⟨a0, a1⟩ : Iv) (⟨b0, b1⟩ : Iv))) (w)) := by
 refine zK (n := 54) Tryz.func143 rfl rfl rfl ?_
 refine qK ?_
 refine qZ ?_
 refine jJ 2 rfl rfl rfl rfl ?_; intro b2
 refine jJ 3 rfl rfl rfl rfl ?_; intro b3
 refine yK 4 ze71 rfl rfl rfl ?_; intro b4
 refine qJ ?_
 refine qQ ?_
 refine qK ?_
 refine qK ?_
 refine qZ ?_
 refine qY (qV 2 ty71 rfl rfl rfl) rfl rfl rfl ?_
 refine qY (qV 3 ty71 rfl rfl rfl) rfl rfl rfl ?_
 refine jG (F := vB) (zY en134 rfl (fun w _ => iValid2 _ _ _ _  w)) rfl rfl rfl ?_; intro r12 hr12
 refine qY (qUW rfl) rfl rfl rfl ?_
 refine qJ ?_
 refine qQ ?_
 refine yX rfl (fun hc13 => ?_) (fun hc13 => ?_)
 ·
  refine qK ?_
  refine qZ ?_
  refine qY (zU la71 rfl rfl) rfl rfl rfl ?_
  refine qG 4 ty71 rfl rfl rfl rfl rfl rfl rfl rfl ?_
  refine qJ ?_
  refine qQ ?_
  refine zV ?_
  refine jZ ?_
  refine zQ (rs := [.cell 4 71]) rfl (resC (zJ 4 rfl rfl ty71 rfl) (resN)) (congrArg (iv) (?_ : ⟨_, _⟩ = Iv.mul (⟨a0, a1⟩ : Iv) (⟨b0, b1⟩ : Iv)))
  subst_vars; first | (simp_all [Iv.mul, min4, max4]; done) | (simp_all [Iv.mul, min4, max4] <;> omega) | grind [Iv.mul, min4, max4]
 ·
  refine yU ?_
  refine qQ ?_
  refine qK ?_
  have hv := (hr12.symm.trans (by simpa using hc13))
  rw [Bool.and_eq_true] at hv
  have ha := qYX hv.1
  have hb := qYX hv.2
  have m1 := qHG (a := a0) (b := b0) (by omega) (by omega)
  have m2 := qHG (a := a0) (b := b1) (by omega) (by omega)
  have m3 := qHG (a := a1) (b := b0) (by omega) (by omega)
  have m4 := qHG (a := a1) (b := b1) (by omega) (by omega)
  refine qZ ?_
  refine qY (qX qYQ rfl) rfl rfl rfl ?_
  refine qY (zW 2 ty2 rfl rfl rfl) rfl rfl rfl ?_
  refine qY (qX qYQ rfl) rfl rfl rfl ?_
  refine qY (zW 3 ty2 rfl rfl rfl) rfl rfl rfl ?_
  refine qY (kU rfl rfl (by first | exact zX ⟨by omega, by omega⟩ | rfl)) rfl rfl rfl ?_
  refine qY (qX qYQ rfl) rfl rfl rfl ?_
  refine qY (zW 2 ty2 rfl rfl rfl) rfl rfl rfl ?_
  refine qY (qX qYG rfl) rfl rfl rfl ?_
  refine qY (zW 3 ty2 rfl rfl rfl) rfl rfl rfl ?_
  refine qY (kU rfl rfl (by first | exact zX ⟨by omega, by omega⟩ | rfl)) rfl rfl rfl ?_
  refine qY (qX qYG rfl) rfl rfl rfl ?_
  refine qY (zW 2 ty2 rfl rfl rfl) rfl rfl rfl ?_
  refine qY (qX qYQ rfl) rfl rfl rfl ?_
  refine qY (zW 3 ty2 rfl rfl rfl) rfl rfl rfl ?_
  refine qY (kU rfl rfl (by first | exact zX ⟨by omega, by omega⟩ | rfl)) rfl rfl rfl ?_
  refine qY (qX qYG rfl) rfl rfl rfl ?_
  refine qY (zW 2 ty2 rfl rfl rfl) rfl rfl rfl ?_
  refine qY (qX qYG rfl) rfl rfl rfl ?_
  refine qY (zW 3 ty2 rfl rfl rfl) rfl rfl rfl ?_
  refine qY (kU rfl rfl (by first | exact zX ⟨by omega, by omega⟩ | rfl)) rfl rfl rfl ?_
  refine qY (zU la189 rfl rfl) rfl rfl rfl ?_
  refine yK 5 ze189 rfl rfl rfl ?_; intro b5
  refine qG 5 ty189 rfl rfl rfl rfl rfl rfl rfl rfl ?_
  refine qJ ?_
  refine qQ ?_
  refine qK ?_
  refine jV 5 mo (by kernel_rfl) ?_
  simp only [List.take_succ_cons, List.take_zero, List.drop_succ_cons, List.drop_zero]
  refine zH (yY ar189 rfl rfl (by first | decide | omega) (by first | decide | omega)) rfl rfl rfl ?_
  refine zH (zW 5 ty2 rfl rfl rfl) rfl rfl rfl ?_
  refine zH (yY ar189 rfl rfl (by first | decide | omega) (by first | decide | omega)) rfl rfl rfl ?_
  refine zH (zW 5 ty2 rfl rfl rfl) rfl rfl rfl ?_
  refine zH (qW rfl) rfl rfl rfl ?_
  refine uU ?_
  refine kJ ?_
  refine qY (qW rfl) rfl rfl rfl ?_
  refine qJ ?_
  refine qQ ?_
  refine qK ?_
  refine qK ?_
  refine qZ ?_
  refine qY (qV 5 ty189 rfl rfl rfl) rfl rfl rfl ?_
  refine qY (qU rfl) rfl rfl rfl ?_
  refine qJ ?_
  refine qQ ?_
  refine jX ?_
  refine doC_rounds 5 ?_
  refine qYH ?_
  refine qK ?_
  refine qZ ?_
  refine qY (qZJ rfl rfl) rfl rfl rfl ?_
  refine qJ ?_
  refine qQ ?_
  refine qK ?_
  refine jH rfl (by decide) ?_
  refine yU ?_
  refine qQ ?_
  refine qK ?_
  refine jX ?_
  refine qK ?_
  refine qZ ?_
  refine qY (opV_index rfl rfl (ix4_0)) rfl rfl rfl ?_
  refine qY (qW rfl) rfl rfl rfl ?_
  refine qJ ?_
  refine qQ ?_
  refine qZ ?_
  refine qY (qU rfl) rfl rfl rfl ?_
  refine qY (qU rfl) rfl rfl rfl ?_
  refine qY (qJZ rfl rfl) rfl rfl rfl ?_
  refine qY (qU rfl) rfl rfl rfl ?_
  refine qY (qU rfl) rfl rfl rfl ?_
  refine qY (qWY rfl rfl) rfl rfl rfl ?_
  refine qY (qW rfl) rfl rfl rfl ?_
  refine qY (qW rfl) rfl rfl rfl ?_
  refine qJ ?_
  refine qH ?_
  refine qQ ?_
  refine qZ ?_
  refine qY (jU rfl rfl (by first | exact zX ⟨by omega, by omega⟩ | rfl)) rfl rfl rfl ?_
  refine qY (qU rfl) rfl rfl rfl ?_
  refine qJ ?_
  refine qQH ?_
  refine qYH ?_
  refine qK ?_
  refine qZ ?_
  refine qY (qZJ rfl rfl) rfl rfl rfl ?_
  refine qJ ?_
  refine qQ ?_
  refine qK ?_
  refine jH rfl (by decide) ?_
  refine yU ?_
  refine qQ ?_
  refine qK ?_
  refine jX ?_
  refine qK ?_
  refine qZ ?_
  refine qY (opV_index rfl rfl (ix4_1)) rfl rfl rfl ?_
  refine qY (qW rfl) rfl rfl rfl ?_
  refine qJ ?_
  refine qQ ?_
  refine qZ ?_
  refine qY (qU rfl) rfl rfl rfl ?_
  refine qY (qU rfl) rfl rfl rfl ?_
  refine qY (qJZ rfl rfl) rfl rfl rfl ?_
  refine qY (qU rfl) rfl rfl rfl ?_
  refine qY (qU rfl) rfl rfl rfl ?_
  refine qY (qWY rfl rfl) rfl rfl rfl ?_
  refine qY (qW rfl) rfl rfl rfl ?_
  refine qY (qW rfl) rfl rfl rfl ?_
  refine qJ ?_
  refine qH ?_
  refine qQ ?_
  refine qZ ?_
  refine qY (jU rfl rfl (by first | exact zX ⟨by omega, by omega⟩ | rfl)) rfl rfl rfl ?_
  refine qY (qU rfl) rfl rfl rfl ?_
  refine qJ ?_
  refine qQH ?_
  refine qYH ?_
  refine qK ?_
  refine qZ ?_
  refine qY (qZJ rfl rfl) rfl rfl rfl ?_
  refine qJ ?_
  refine qQ ?_
  refine qK ?_
  refine jH rfl (by decide) ?_
  refine yU ?_
  refine qQ ?_
  refine qK ?_
  refine jX ?_
  refine qK ?_
  refine qZ ?_
  refine qY (opV_index rfl rfl (ix4_2)) rfl rfl rfl ?_
  refine qY (qW rfl) rfl rfl rfl ?_
  refine qJ ?_
  refine qQ ?_
  refine qZ ?_
  refine qY (qU rfl) rfl rfl rfl ?_
  refine qY (qU rfl) rfl rfl rfl ?_
  refine qY (qJZ rfl rfl) rfl rfl rfl ?_
  refine qY (qU rfl) rfl rfl rfl ?_
  refine qY (qU rfl) rfl rfl rfl ?_
  refine qY (qWY rfl rfl) rfl rfl rfl ?_
  refine qY (qW rfl) rfl rfl rfl ?_
  refine qY (qW rfl) rfl rfl rfl ?_
  refine qJ ?_
  refine qH ?_
  refine qQ ?_
  refine qZ ?_
  refine qY (jU rfl rfl (by first | exact zX ⟨by omega, by omega⟩ | rfl)) rfl rfl rfl ?_
  refine qY (qU rfl) rfl rfl rfl ?_
  refine qJ ?_
  refine qQH ?_
  refine qYH ?_
  refine qK ?_
  refine qZ ?_
  refine qY (qZJ rfl rfl) rfl rfl rfl ?_
  refine qJ ?_
  refine qQ ?_
  refine qK ?_
  refine jH rfl (by decide) ?_
  refine yU ?_
  refine qQ ?_
  refine qK ?_
  refine jX ?_
  refine qK ?_
  refine qZ ?_
  refine qY (opV_index rfl rfl (ix4_3)) rfl rfl rfl ?_
  refine qY (qW rfl) rfl rfl rfl ?_
  refine qJ ?_
  refine qQ ?_
  refine qZ ?_
  refine qY (qU rfl) rfl rfl rfl ?_
  refine qY (qU rfl) rfl rfl rfl ?_
  refine qY (qJZ rfl rfl) rfl rfl rfl ?_
  refine qY (qU rfl) rfl rfl rfl ?_
  refine qY (qU rfl) rfl rfl rfl ?_
  refine qY (qWY rfl rfl) rfl rfl rfl ?_
  refine qY (qW rfl) rfl rfl rfl ?_
  refine qY (qW rfl) rfl rfl rfl ?_
  refine qJ ?_
  refine qH ?_
  refine qQ ?_
  refine qZ ?_
  refine qY (jU rfl rfl (by first | exact zX ⟨by omega, by omega⟩ | rfl)) rfl rfl rfl ?_
  refine qY (qU rfl) rfl rfl rfl ?_
  refine qJ ?_
  refine qQH ?_
  refine qYH ?_
  refine qK ?_
  refine qZ ?_
  refine qY (qZJ rfl rfl) rfl rfl rfl ?_
  refine qJ ?_
  refine qQ ?_
  refine qK ?_
  refine doC_cond_f rfl (by decide) ?_
  refine qWH ?_
  refine jW ?_
  refine jW ?_
  refine uG ?_
  refine qQ ?_
  refine qK ?_
  refine qZ ?_
  refine qY (qU rfl) rfl rfl rfl ?_
  refine qY (qU rfl) rfl rfl rfl ?_
  refine jG (F := iv) (zY en160 rfl (fun w _ => iScaled _ _ (by unfold In64; omega) (by unfold In64; omega) (by omega) w)) rfl rfl rfl ?_; intro r53 hr53
  refine qG 4 ty71 rfl rfl rfl rfl rfl rfl rfl rfl ?_
  refine qJ ?_
  refine qQ ?_
  refine zV ?_
  refine zQ (rs := [.cell 4 71]) rfl (resC (zJ 4 rfl rfl ty71 rfl) (resN)) (congrArg (iv) (?_ : ⟨_, _⟩ = Iv.mul (⟨a0, a1⟩ : Iv) (⟨b0, b1⟩ : Iv)))
  subst_vars; first | (simp_all [Iv.mul, min4, max4]; done) | (simp_all [Iv.mul, min4, max4] <;> omega) | grind [Iv.mul, min4, max4]
theorem mPoint (p0 p1 p2 : Int) (w : World) : Calls Tryz.prog 59 [.agg #[.int .i64 p0, .int .i64 p1, .int .i64 p2]].toArray w (Rets (v3 (V3.of (⟨p0, p1, p2⟩ : Z3))) (w)) := by
 refine zK (n := 16) Tryz.func59 rfl rfl rfl ?_
 refine qK ?_
 refine qZ ?_
 refine jJ 1 rfl rfl rfl rfl ?_; intro b1
 refine yK 2 ze75 rfl rfl rfl ?_; intro b2
 refine qJ ?_
 refine qQ ?_
 refine qK ?_
 refine qZ ?_
 refine yK 3 ze75 rfl rfl rfl ?_; intro b3
 refine qJ ?_
 refine qQ ?_
 refine qK ?_
 refine qK ?_
 refine qZ ?_
 refine qY (qU rfl) rfl rfl rfl ?_
 refine qJ ?_
 refine qQ ?_
 refine jX ?_
 refine doC_rounds 4 ?_
 refine qYH ?_
 refine qK ?_
 refine qZ ?_
 refine qY (qZJ rfl rfl) rfl rfl rfl ?_
 refine qJ ?_
 refine qQ ?_
 refine qK ?_
 refine jH rfl (by decide) ?_
 refine yU ?_
 refine qQ ?_
 refine qK ?_
 refine jX ?_
 refine qK ?_
 refine qZ ?_
 refine qY (qU rfl) rfl rfl rfl ?_
 refine qY (qW rfl) rfl rfl rfl ?_
 refine qJ ?_
 refine qQ ?_
 refine qZ ?_
 refine qY (qU rfl) rfl rfl rfl ?_
 refine qY (qU rfl) rfl rfl rfl ?_
 refine qY (yY ar39 rfl rfl (by first | decide | omega) (by first | decide | omega)) rfl rfl rfl ?_
 refine qY (zW 1 ty2 rfl rfl rfl) rfl rfl rfl ?_
 refine jG (F := iv) (zY en99 rfl (fun w _ => iOf _  w)) rfl rfl rfl ?_; intro r12 hr12
 refine qY (yY ar75 rfl rfl (by first | decide | omega) (by first | decide | omega)) rfl rfl rfl ?_
 refine qG 3 ty71 rfl rfl rfl rfl rfl rfl rfl rfl ?_
 refine qJ ?_
 refine qH ?_
 refine qQ ?_
 refine qZ ?_
 refine qY (jU rfl rfl (by first | exact zX ⟨by omega, by omega⟩ | rfl)) rfl rfl rfl ?_
 refine qY (qU rfl) rfl rfl rfl ?_
 refine qJ ?_
 refine qQH ?_
 refine qYH ?_
 refine qK ?_
 refine qZ ?_
 refine qY (qZJ rfl rfl) rfl rfl rfl ?_
 refine qJ ?_
 refine qQ ?_
 refine qK ?_
 refine jH rfl (by decide) ?_
 refine yU ?_
 refine qQ ?_
 refine qK ?_
 refine jX ?_
 refine qK ?_
 refine qZ ?_
 refine qY (qU rfl) rfl rfl rfl ?_
 refine qY (qW rfl) rfl rfl rfl ?_
 refine qJ ?_
 refine qQ ?_
 refine qZ ?_
 refine qY (qU rfl) rfl rfl rfl ?_
 refine qY (qU rfl) rfl rfl rfl ?_
 refine qY (yY ar39 rfl rfl (by first | decide | omega) (by first | decide | omega)) rfl rfl rfl ?_
 refine qY (zW 1 ty2 rfl rfl rfl) rfl rfl rfl ?_
 refine jG (F := iv) (zY en99 rfl (fun w _ => iOf _  w)) rfl rfl rfl ?_; intro r12_2 hr12_2
 refine qY (yY ar75 rfl rfl (by first | decide | omega) (by first | decide | omega)) rfl rfl rfl ?_
 refine qG 3 ty71 rfl rfl rfl rfl rfl rfl rfl rfl ?_
 refine qJ ?_
 refine qH ?_
 refine qQ ?_
 refine qZ ?_
 refine qY (jU rfl rfl (by first | exact zX ⟨by omega, by omega⟩ | rfl)) rfl rfl rfl ?_
 refine qY (qU rfl) rfl rfl rfl ?_
 refine qJ ?_
 refine qQH ?_
 refine qYH ?_
 refine qK ?_
 refine qZ ?_
 refine qY (qZJ rfl rfl) rfl rfl rfl ?_
 refine qJ ?_
 refine qQ ?_
 refine qK ?_
 refine jH rfl (by decide) ?_
 refine yU ?_
 refine qQ ?_
 refine qK ?_
 refine jX ?_
 refine qK ?_
 refine qZ ?_
 refine qY (qU rfl) rfl rfl rfl ?_
 refine qY (qW rfl) rfl rfl rfl ?_
 refine qJ ?_
 refine qQ ?_
 refine qZ ?_
 refine qY (qU rfl) rfl rfl rfl ?_
 refine qY (qU rfl) rfl rfl rfl ?_
 refine qY (yY ar39 rfl rfl (by first | decide | omega) (by first | decide | omega)) rfl rfl rfl ?_
 refine qY (zW 1 ty2 rfl rfl rfl) rfl rfl rfl ?_
 refine jG (F := iv) (zY en99 rfl (fun w _ => iOf _  w)) rfl rfl rfl ?_; intro r12_3 hr12_3
 refine qY (yY ar75 rfl rfl (by first | decide | omega) (by first | decide | omega)) rfl rfl rfl ?_
 refine qG 3 ty71 rfl rfl rfl rfl rfl rfl rfl rfl ?_
 refine qJ ?_
 refine qH ?_
 refine qQ ?_
 refine qZ ?_
 refine qY (jU rfl rfl (by first | exact zX ⟨by omega, by omega⟩ | rfl)) rfl rfl rfl ?_
 refine qY (qU rfl) rfl rfl rfl ?_
 refine qJ ?_
 refine qQH ?_
 refine qYH ?_
 refine qK ?_
 refine qZ ?_
 refine qY (qZJ rfl rfl) rfl rfl rfl ?_
 refine qJ ?_
 refine qQ ?_
 refine qK ?_
 refine doC_cond_f rfl (by decide) ?_
 refine qWH ?_
 refine jW ?_
 refine jW ?_
 refine uG ?_
 refine qQ ?_
 refine qK ?_
 refine qZ ?_
 refine qY (qV 3 ty75 rfl rfl rfl) rfl rfl rfl ?_
 refine qG 2 ty75 rfl rfl rfl rfl rfl rfl rfl rfl ?_
 refine qJ ?_
 refine qQ ?_
 refine zV ?_
 refine zQ (rs := [.cell 2 75]) rfl (resC (zJ 2 rfl rfl ty75 rfl) (resN)) (congrArg (v3) (?_ : ⟨⟨_, _⟩, ⟨_, _⟩, ⟨_, _⟩⟩ = V3.of (⟨p0, p1, p2⟩ : Z3)))
 subst_vars; rfl
theorem zZX (p0 p1 p2 : Int) (w : World) : Calls Tryz.prog 33 [.agg #[.int .i64 p0, .int .i64 p1, .int .i64 p2]].toArray w (Rets (v3 (V3.of (⟨p0, p1, p2⟩ : Z3))) (w)) := by
 refine zK (n := 13) Tryz.func33 rfl rfl rfl ?_
 refine qK ?_
 refine qZ ?_
 refine jJ 1 rfl rfl rfl rfl ?_; intro b1
 refine yK 2 ze75 rfl rfl rfl ?_; intro b2
 refine qJ ?_
 refine qQ ?_
 refine qK ?_
 refine jV 10 mo (by kernel_rfl) ?_
 simp only [List.take_succ_cons, List.take_zero, List.drop_succ_cons, List.drop_zero]
 refine zH (yY ar39 rfl rfl (by first | decide | omega) (by first | decide | omega)) rfl rfl rfl ?_
 refine zH (zW 1 ty2 rfl rfl rfl) rfl rfl rfl ?_
 refine kK (F := iv) (zY en31 rfl (fun w _ => rOf _  w)) rfl rfl rfl ?_; intro r5 hr5
 refine zH (yY ar39 rfl rfl (by first | decide | omega) (by first | decide | omega)) rfl rfl rfl ?_
 refine zH (zW 1 ty2 rfl rfl rfl) rfl rfl rfl ?_
 refine kK (F := iv) (zY en31 rfl (fun w _ => rOf _  w)) rfl rfl rfl ?_; intro r8 hr8
 refine zH (yY ar39 rfl rfl (by first | decide | omega) (by first | decide | omega)) rfl rfl rfl ?_
 refine zH (zW 1 ty2 rfl rfl rfl) rfl rfl rfl ?_
 refine kK (F := iv) (zY en31 rfl (fun w _ => rOf _  w)) rfl rfl rfl ?_; intro r11 hr11
 refine zH (zU la75 rfl rfl) rfl rfl rfl ?_
 refine uU ?_
 refine kJ ?_
 refine qG 2 ty75 rfl rfl rfl rfl rfl rfl rfl rfl ?_
 refine qJ ?_
 refine qQ ?_
 refine zV ?_
 refine zQ (rs := [.cell 2 75]) rfl (resC (zJ 2 rfl rfl ty75 rfl) (resN)) (congrArg (v3) (?_ : ⟨⟨_, _⟩, ⟨_, _⟩, ⟨_, _⟩⟩ = V3.of (⟨p0, p1, p2⟩ : Z3)))
 subst_vars; rfl
theorem mAdd (p0 p1 p2 p3 p4 p5 : Int) (q0 q1 q2 q3 q4 q5 : Int) (w : World) : Calls Tryz.prog 140 [.agg #[.int .i64 p0, .int .i64 p1, .int .i64 p2, .int .i64 p3, .int .i64 p4, .int .i64 p5], .agg #[.int .i64 q0, .int .i64 q1, .int .i64 q2, .int .i64 q3, .int .i64 q4, .int .i64 q5]].toArray w (Rets (v3 (V3.add (⟨⟨p0, p1⟩, ⟨p2, p3⟩, ⟨p4, p5⟩⟩ : V3) (⟨⟨q0, q1⟩, ⟨q2, q3⟩, ⟨q4, q5⟩⟩ : V3))) (w)) := by
 refine zK (n := 21) Tryz.func140 rfl rfl rfl ?_
 refine qK ?_
 refine qZ ?_
 refine jJ 2 rfl rfl rfl rfl ?_; intro b2
 refine jJ 3 rfl rfl rfl rfl ?_; intro b3
 refine yK 4 ze75 rfl rfl rfl ?_; intro b4
 refine qJ ?_
 refine qQ ?_
 refine qK ?_
 refine qZ ?_
 refine yK 5 ze75 rfl rfl rfl ?_; intro b5
 refine qJ ?_
 refine qQ ?_
 refine qK ?_
 refine qK ?_
 refine qZ ?_
 refine qY (qU rfl) rfl rfl rfl ?_
 refine qJ ?_
 refine qQ ?_
 refine jX ?_
 refine doC_rounds 4 ?_
 refine qYH ?_
 refine qK ?_
 refine qZ ?_
 refine qY (qZJ rfl rfl) rfl rfl rfl ?_
 refine qJ ?_
 refine qQ ?_
 refine qK ?_
 refine jH rfl (by decide) ?_
 refine yU ?_
 refine qQ ?_
 refine qK ?_
 refine jX ?_
 refine qK ?_
 refine qZ ?_
 refine qY (qU rfl) rfl rfl rfl ?_
 refine qY (qW rfl) rfl rfl rfl ?_
 refine qJ ?_
 refine qQ ?_
 refine jV 9 mo (by kernel_rfl) ?_
 simp only [List.take_succ_cons, List.take_zero, List.drop_succ_cons, List.drop_zero]
 refine zH (qU rfl) rfl rfl rfl ?_
 refine zH (qU rfl) rfl rfl rfl ?_
 refine zH (yY ar75 rfl rfl (by first | decide | omega) (by first | decide | omega)) rfl rfl rfl ?_
 refine zH (qV 2 ty71 rfl rfl rfl) rfl rfl rfl ?_
 refine zH (qU rfl) rfl rfl rfl ?_
 refine zH (yY ar75 rfl rfl (by first | decide | omega) (by first | decide | omega)) rfl rfl rfl ?_
 refine zH (qV 3 ty71 rfl rfl rfl) rfl rfl rfl ?_
 refine kK (F := iv) (zY en142 rfl (fun w _ => iAdd _ _ _ _  w)) rfl rfl rfl ?_; intro r17 hr17
 refine zH (yY ar75 rfl rfl (by first | decide | omega) (by first | decide | omega)) rfl rfl rfl ?_
 refine uU ?_
 refine kJ ?_
 refine qG 5 ty71 rfl rfl rfl rfl rfl rfl rfl rfl ?_
 refine qJ ?_
 refine qH ?_
 refine qQ ?_
 refine qZ ?_
 refine qY (jU rfl rfl (by first | exact zX ⟨by omega, by omega⟩ | rfl)) rfl rfl rfl ?_
 refine qY (qU rfl) rfl rfl rfl ?_
 refine qJ ?_
 refine qQH ?_
 refine qYH ?_
 refine qK ?_
 refine qZ ?_
 refine qY (qZJ rfl rfl) rfl rfl rfl ?_
 refine qJ ?_
 refine qQ ?_
 refine qK ?_
 refine jH rfl (by decide) ?_
 refine yU ?_
 refine qQ ?_
 refine qK ?_
 refine jX ?_
 refine qK ?_
 refine qZ ?_
 refine qY (qU rfl) rfl rfl rfl ?_
 refine qY (qW rfl) rfl rfl rfl ?_
 refine qJ ?_
 refine qQ ?_
 refine jV 9 mo (by kernel_rfl) ?_
 simp only [List.take_succ_cons, List.take_zero, List.drop_succ_cons, List.drop_zero]
 refine zH (qU rfl) rfl rfl rfl ?_
 refine zH (qU rfl) rfl rfl rfl ?_
 refine zH (yY ar75 rfl rfl (by first | decide | omega) (by first | decide | omega)) rfl rfl rfl ?_
 refine zH (qV 2 ty71 rfl rfl rfl) rfl rfl rfl ?_
 refine zH (qU rfl) rfl rfl rfl ?_
 refine zH (yY ar75 rfl rfl (by first | decide | omega) (by first | decide | omega)) rfl rfl rfl ?_
 refine zH (qV 3 ty71 rfl rfl rfl) rfl rfl rfl ?_
 refine kK (F := iv) (zY en142 rfl (fun w _ => iAdd _ _ _ _  w)) rfl rfl rfl ?_; intro r17_2 hr17_2
 refine zH (yY ar75 rfl rfl (by first | decide | omega) (by first | decide | omega)) rfl rfl rfl ?_
 refine uU ?_
 refine kJ ?_
 refine qG 5 ty71 rfl rfl rfl rfl rfl rfl rfl rfl ?_
 refine qJ ?_
 refine qH ?_
 refine qQ ?_
 refine qZ ?_
 refine qY (jU rfl rfl (by first | exact zX ⟨by omega, by omega⟩ | rfl)) rfl rfl rfl ?_
 refine qY (qU rfl) rfl rfl rfl ?_
 refine qJ ?_
 refine qQH ?_
 refine qYH ?_
 refine qK ?_
 refine qZ ?_
 refine qY (qZJ rfl rfl) rfl rfl rfl ?_
 refine qJ ?_
 refine qQ ?_
 refine qK ?_
 refine jH rfl (by decide) ?_
 refine yU ?_
 refine qQ ?_
 refine qK ?_
 refine jX ?_
 refine qK ?_
 refine qZ ?_
 refine qY (qU rfl) rfl rfl rfl ?_
 refine qY (qW rfl) rfl rfl rfl ?_
 refine qJ ?_
 refine qQ ?_
 refine jV 9 mo (by kernel_rfl) ?_
 simp only [List.take_succ_cons, List.take_zero, List.drop_succ_cons, List.drop_zero]
 refine zH (qU rfl) rfl rfl rfl ?_
 refine zH (qU rfl) rfl rfl rfl ?_
 refine zH (yY ar75 rfl rfl (by first | decide | omega) (by first | decide | omega)) rfl rfl rfl ?_
 refine zH (qV 2 ty71 rfl rfl rfl) rfl rfl rfl ?_
 refine zH (qU rfl) rfl rfl rfl ?_
 refine zH (yY ar75 rfl rfl (by first | decide | omega) (by first | decide | omega)) rfl rfl rfl ?_
 refine zH (qV 3 ty71 rfl rfl rfl) rfl rfl rfl ?_
 refine kK (F := iv) (zY en142 rfl (fun w _ => iAdd _ _ _ _  w)) rfl rfl rfl ?_; intro r17_3 hr17_3
 refine zH (yY ar75 rfl rfl (by first | decide | omega) (by first | decide | omega)) rfl rfl rfl ?_
 refine uU ?_
 refine kJ ?_
 refine qG 5 ty71 rfl rfl rfl rfl rfl rfl rfl rfl ?_
 refine qJ ?_
 refine qH ?_
 refine qQ ?_
 refine qZ ?_
 refine qY (jU rfl rfl (by first | exact zX ⟨by omega, by omega⟩ | rfl)) rfl rfl rfl ?_
 refine qY (qU rfl) rfl rfl rfl ?_
 refine qJ ?_
 refine qQH ?_
 refine qYH ?_
 refine qK ?_
 refine qZ ?_
 refine qY (qZJ rfl rfl) rfl rfl rfl ?_
 refine qJ ?_
 refine qQ ?_
 refine qK ?_
 refine doC_cond_f rfl (by decide) ?_
 refine qWH ?_
 refine jW ?_
 refine jW ?_
 refine uG ?_
 refine qQ ?_
 refine qK ?_
 refine qZ ?_
 refine qY (qV 5 ty75 rfl rfl rfl) rfl rfl rfl ?_
 refine qG 4 ty75 rfl rfl rfl rfl rfl rfl rfl rfl ?_
 refine qJ ?_
 refine qQ ?_
 refine zV ?_
 refine zQ (rs := [.cell 4 75]) rfl (resC (zJ 4 rfl rfl ty75 rfl) (resN)) (congrArg (v3) (?_ : ⟨⟨_, _⟩, ⟨_, _⟩, ⟨_, _⟩⟩ = V3.add (⟨⟨p0, p1⟩, ⟨p2, p3⟩, ⟨p4, p5⟩⟩ : V3) (⟨⟨q0, q1⟩, ⟨q2, q3⟩, ⟨q4, q5⟩⟩ : V3)))
 subst_vars; rfl
theorem rAddVec (p0 p1 p2 p3 p4 p5 : Int) (q0 q1 q2 q3 q4 q5 : Int) (w : World) : Calls Tryz.prog 62 [.agg #[.int .i64 p0, .int .i64 p1, .int .i64 p2, .int .i64 p3, .int .i64 p4, .int .i64 p5], .agg #[.int .i64 q0, .int .i64 q1, .int .i64 q2, .int .i64 q3, .int .i64 q4, .int .i64 q5]].toArray w (Rets (v3 (V3.add (⟨⟨p0, p1⟩, ⟨p2, p3⟩, ⟨p4, p5⟩⟩ : V3) (⟨⟨q0, q1⟩, ⟨q2, q3⟩, ⟨q4, q5⟩⟩ : V3))) (w)) := by
 refine zK (n := 21) Tryz.func62 rfl rfl rfl ?_
 refine qK ?_
 refine qZ ?_
 refine jJ 2 rfl rfl rfl rfl ?_; intro b2
 refine jJ 3 rfl rfl rfl rfl ?_; intro b3
 refine yK 4 ze75 rfl rfl rfl ?_; intro b4
 refine qJ ?_
 refine qQ ?_
 refine qK ?_
 refine jV 16 mo (by kernel_rfl) ?_
 simp only [List.take_succ_cons, List.take_zero, List.drop_succ_cons, List.drop_zero]
 refine zH (yY ar75 rfl rfl (by first | decide | omega) (by first | decide | omega)) rfl rfl rfl ?_
 refine zH (qV 2 ty71 rfl rfl rfl) rfl rfl rfl ?_
 refine zH (yY ar75 rfl rfl (by first | decide | omega) (by first | decide | omega)) rfl rfl rfl ?_
 refine zH (qV 3 ty71 rfl rfl rfl) rfl rfl rfl ?_
 refine kK (F := iv) (zY en103 rfl (fun w _ => rAdd _ _ _ _  w)) rfl rfl rfl ?_; intro r9 hr9
 refine zH (yY ar75 rfl rfl (by first | decide | omega) (by first | decide | omega)) rfl rfl rfl ?_
 refine zH (qV 2 ty71 rfl rfl rfl) rfl rfl rfl ?_
 refine zH (yY ar75 rfl rfl (by first | decide | omega) (by first | decide | omega)) rfl rfl rfl ?_
 refine zH (qV 3 ty71 rfl rfl rfl) rfl rfl rfl ?_
 refine kK (F := iv) (zY en103 rfl (fun w _ => rAdd _ _ _ _  w)) rfl rfl rfl ?_; intro r14 hr14
 refine zH (yY ar75 rfl rfl (by first | decide | omega) (by first | decide | omega)) rfl rfl rfl ?_
 refine zH (qV 2 ty71 rfl rfl rfl) rfl rfl rfl ?_
 refine zH (yY ar75 rfl rfl (by first | decide | omega) (by first | decide | omega)) rfl rfl rfl ?_
 refine zH (qV 3 ty71 rfl rfl rfl) rfl rfl rfl ?_
 refine kK (F := iv) (zY en103 rfl (fun w _ => rAdd _ _ _ _  w)) rfl rfl rfl ?_; intro r19 hr19
 refine zH (zU la75 rfl rfl) rfl rfl rfl ?_
 refine uU ?_
 refine kJ ?_
 refine qG 4 ty75 rfl rfl rfl rfl rfl rfl rfl rfl ?_
 refine qJ ?_
 refine qQ ?_
 refine zV ?_
 refine zQ (rs := [.cell 4 75]) rfl (resC (zJ 4 rfl rfl ty75 rfl) (resN)) (congrArg (v3) (?_ : ⟨⟨_, _⟩, ⟨_, _⟩, ⟨_, _⟩⟩ = V3.add (⟨⟨p0, p1⟩, ⟨p2, p3⟩, ⟨p4, p5⟩⟩ : V3) (⟨⟨q0, q1⟩, ⟨q2, q3⟩, ⟨q4, q5⟩⟩ : V3)))
 subst_vars; rfl
theorem mIdentity  (w : World) : Calls Tryz.prog 98 [].toArray w (Rets (m3 (M3.unit)) (w)) := by
 refine zK (n := 13) Tryz.func98 rfl rfl rfl ?_
 refine qK ?_
 refine qZ ?_
 refine yK 0 ze74 rfl rfl rfl ?_; intro b0
 refine qJ ?_
 refine qQ ?_
 refine qK ?_
 refine qZ ?_
 refine yK 1 ze74 rfl rfl rfl ?_; intro b1
 refine qJ ?_
 refine qQ ?_
 refine qK ?_
 refine qK ?_
 refine qZ ?_
 refine qY (qU rfl) rfl rfl rfl ?_
 refine qJ ?_
 refine qQ ?_
 refine jX ?_
 refine doC_rounds 4 ?_
 refine qYH ?_
 refine qK ?_
 refine qZ ?_
 refine qY (qZJ rfl rfl) rfl rfl rfl ?_
 refine qJ ?_
 refine qQ ?_
 refine qK ?_
 refine jH rfl (by decide) ?_
 refine yU ?_
 refine qQ ?_
 refine qK ?_
 refine jX ?_
 refine qK ?_
 refine qZ ?_
 refine qY (qU rfl) rfl rfl rfl ?_
 refine qY (qW rfl) rfl rfl rfl ?_
 refine qJ ?_
 refine qQ ?_
 refine jV 5 mo (by kernel_rfl) ?_
 simp only [List.take_succ_cons, List.take_zero, List.drop_succ_cons, List.drop_zero]
 refine zH (qU rfl) rfl rfl rfl ?_
 refine zH (qU rfl) rfl rfl rfl ?_
 refine kK (F := iv) (zY en99 rfl (fun w _ => iOf _  w)) rfl rfl rfl ?_; intro r8 hr8
 refine zH (yY ar74 rfl rfl (by first | decide | omega) (by first | decide | omega)) rfl rfl rfl ?_
 refine zH (yY ar72 rfl rfl (by first | decide | omega) (by first | decide | omega)) rfl rfl rfl ?_
 refine uU ?_
 refine kJ ?_
 refine qG 1 ty71 rfl rfl rfl rfl rfl rfl rfl rfl ?_
 refine qJ ?_
 refine qH ?_
 refine qQ ?_
 refine qZ ?_
 refine qY (jU rfl rfl (by first | exact zX ⟨by omega, by omega⟩ | rfl)) rfl rfl rfl ?_
 refine qY (qU rfl) rfl rfl rfl ?_
 refine qJ ?_
 refine qQH ?_
 refine qYH ?_
 refine qK ?_
 refine qZ ?_
 refine qY (qZJ rfl rfl) rfl rfl rfl ?_
 refine qJ ?_
 refine qQ ?_
 refine qK ?_
 refine jH rfl (by decide) ?_
 refine yU ?_
 refine qQ ?_
 refine qK ?_
 refine jX ?_
 refine qK ?_
 refine qZ ?_
 refine qY (qU rfl) rfl rfl rfl ?_
 refine qY (qW rfl) rfl rfl rfl ?_
 refine qJ ?_
 refine qQ ?_
 refine jV 5 mo (by kernel_rfl) ?_
 simp only [List.take_succ_cons, List.take_zero, List.drop_succ_cons, List.drop_zero]
 refine zH (qU rfl) rfl rfl rfl ?_
 refine zH (qU rfl) rfl rfl rfl ?_
 refine kK (F := iv) (zY en99 rfl (fun w _ => iOf _  w)) rfl rfl rfl ?_; intro r8_2 hr8_2
 refine zH (yY ar74 rfl rfl (by first | decide | omega) (by first | decide | omega)) rfl rfl rfl ?_
 refine zH (yY ar72 rfl rfl (by first | decide | omega) (by first | decide | omega)) rfl rfl rfl ?_
 refine uU ?_
 refine kJ ?_
 refine qG 1 ty71 rfl rfl rfl rfl rfl rfl rfl rfl ?_
 refine qJ ?_
 refine qH ?_
 refine qQ ?_
 refine qZ ?_
 refine qY (jU rfl rfl (by first | exact zX ⟨by omega, by omega⟩ | rfl)) rfl rfl rfl ?_
 refine qY (qU rfl) rfl rfl rfl ?_
 refine qJ ?_
 refine qQH ?_
 refine qYH ?_
 refine qK ?_
 refine qZ ?_
 refine qY (qZJ rfl rfl) rfl rfl rfl ?_
 refine qJ ?_
 refine qQ ?_
 refine qK ?_
 refine jH rfl (by decide) ?_
 refine yU ?_
 refine qQ ?_
 refine qK ?_
 refine jX ?_
 refine qK ?_
 refine qZ ?_
 refine qY (qU rfl) rfl rfl rfl ?_
 refine qY (qW rfl) rfl rfl rfl ?_
 refine qJ ?_
 refine qQ ?_
 refine jV 5 mo (by kernel_rfl) ?_
 simp only [List.take_succ_cons, List.take_zero, List.drop_succ_cons, List.drop_zero]
 refine zH (qU rfl) rfl rfl rfl ?_
 refine zH (qU rfl) rfl rfl rfl ?_
 refine kK (F := iv) (zY en99 rfl (fun w _ => iOf _  w)) rfl rfl rfl ?_; intro r8_3 hr8_3
 refine zH (yY ar74 rfl rfl (by first | decide | omega) (by first | decide | omega)) rfl rfl rfl ?_
 refine zH (yY ar72 rfl rfl (by first | decide | omega) (by first | decide | omega)) rfl rfl rfl ?_
 refine uU ?_
 refine kJ ?_
 refine qG 1 ty71 rfl rfl rfl rfl rfl rfl rfl rfl ?_
 refine qJ ?_
 refine qH ?_
 refine qQ ?_
 refine qZ ?_
 refine qY (jU rfl rfl (by first | exact zX ⟨by omega, by omega⟩ | rfl)) rfl rfl rfl ?_
 refine qY (qU rfl) rfl rfl rfl ?_
 refine qJ ?_
 refine qQH ?_
 refine qYH ?_
 refine qK ?_
 refine qZ ?_
 refine qY (qZJ rfl rfl) rfl rfl rfl ?_
 refine qJ ?_
 refine qQ ?_
 refine qK ?_
 refine doC_cond_f rfl (by decide) ?_
 refine qWH ?_
 refine jW ?_
 refine jW ?_
 refine uG ?_
 refine qQ ?_
 refine qK ?_
 refine qZ ?_
 refine qY (qV 1 ty74 rfl rfl rfl) rfl rfl rfl ?_
 refine qG 0 ty74 rfl rfl rfl rfl rfl rfl rfl rfl ?_
 refine qJ ?_
 refine qQ ?_
 refine zV ?_
 refine zQ (rs := [.cell 0 74]) rfl (resC (zJ 0 rfl rfl ty74 rfl) (resN)) (congrArg (m3) (?_ : ⟨⟨⟨_, _⟩, ⟨_, _⟩, ⟨_, _⟩⟩, ⟨⟨_, _⟩, ⟨_, _⟩, ⟨_, _⟩⟩, ⟨⟨_, _⟩, ⟨_, _⟩, ⟨_, _⟩⟩⟩ = M3.unit))
 subst_vars; rfl
theorem rUnit  (w : World) : Calls Tryz.prog 118 [].toArray w (Rets (m3 (M3.unit)) (w)) := by
 refine zK (n := 16) Tryz.func118 rfl rfl rfl ?_
 refine qK ?_
 refine qZ ?_
 refine yK 0 ze74 rfl rfl rfl ?_; intro b0
 refine qJ ?_
 refine qQ ?_
 refine qK ?_
 refine qZ ?_
 refine jG (F := iv) (zY en31 rfl (fun w _ => rOf _  w)) rfl rfl rfl ?_; intro r2 hr2
 refine yK 1 ze71 rfl rfl rfl ?_; intro b1
 refine qG 1 ty71 rfl rfl rfl rfl rfl rfl rfl rfl ?_
 refine qJ ?_
 refine qQ ?_
 refine qK ?_
 refine qZ ?_
 refine qY (qV 1 ty71 rfl rfl rfl) rfl rfl rfl ?_
 refine qY (zU la71 rfl rfl) rfl rfl rfl ?_
 refine qY (zU la71 rfl rfl) rfl rfl rfl ?_
 refine qY (zU la72 rfl rfl) rfl rfl rfl ?_
 refine qY (zU la71 rfl rfl) rfl rfl rfl ?_
 refine qY (qV 1 ty71 rfl rfl rfl) rfl rfl rfl ?_
 refine qY (zU la71 rfl rfl) rfl rfl rfl ?_
 refine qY (zU la72 rfl rfl) rfl rfl rfl ?_
 refine qY (zU la71 rfl rfl) rfl rfl rfl ?_
 refine qY (zU la71 rfl rfl) rfl rfl rfl ?_
 refine qY (qV 1 ty71 rfl rfl rfl) rfl rfl rfl ?_
 refine qY (zU la72 rfl rfl) rfl rfl rfl ?_
 refine qY (zU la74 rfl rfl) rfl rfl rfl ?_
 refine qG 0 ty74 rfl rfl rfl rfl rfl rfl rfl rfl ?_
 refine qJ ?_
 refine qQ ?_
 refine zV ?_
 refine zQ (rs := [.cell 0 74]) rfl (resC (zJ 0 rfl rfl ty74 rfl) (resN)) (congrArg (m3) (?_ : ⟨⟨⟨_, _⟩, ⟨_, _⟩, ⟨_, _⟩⟩, ⟨⟨_, _⟩, ⟨_, _⟩, ⟨_, _⟩⟩, ⟨⟨_, _⟩, ⟨_, _⟩, ⟨_, _⟩⟩⟩ = M3.unit))
 subst_vars; rfl
theorem mTurn (axis : Int) (a0 a1 : Int) (w : World) : Calls Tryz.prog 162 [.int .i64 axis, .agg #[.int .i64 a0, .int .i64 a1]].toArray w (Rets (m3 (M3.turn axis (⟨a0, a1⟩ : Iv))) (w)) := by
 refine zK (n := 69) Tryz.func162 rfl rfl rfl ?_
 refine qK ?_
 refine qZ ?_
 refine jJ 3 rfl rfl rfl rfl ?_; intro b3
 refine yK 4 ze74 rfl rfl rfl ?_; intro b4
 refine qJ ?_
 refine qQ ?_
 refine qK ?_
 refine qK ?_
 refine qZ ?_
 refine qY (qV 3 ty71 rfl rfl rfl) rfl rfl rfl ?_
 refine jG (F := vB) (zY en107 rfl (fun w _ => zZG _ _  w)) rfl rfl rfl ?_; intro r11 hr11
 refine qY (qUW rfl) rfl rfl rfl ?_
 refine qJ ?_
 refine qQ ?_
 refine yX rfl (fun hc12 => ?_) (fun hc12 => ?_)
 ·
  refine qK ?_
  refine qZ ?_
  refine qY (zU la74 rfl rfl) rfl rfl rfl ?_
  refine qG 4 ty74 rfl rfl rfl rfl rfl rfl rfl rfl ?_
  refine qJ ?_
  refine qQ ?_
  refine zV ?_
  refine jZ ?_
  refine zQ (rs := [.cell 4 74]) rfl (resC (zJ 4 rfl rfl ty74 rfl) (resN)) (congrArg (m3) (?_ : ⟨⟨⟨_, _⟩, ⟨_, _⟩, ⟨_, _⟩⟩, ⟨⟨_, _⟩, ⟨_, _⟩, ⟨_, _⟩⟩, ⟨⟨_, _⟩, ⟨_, _⟩, ⟨_, _⟩⟩⟩ = M3.turn axis (⟨a0, a1⟩ : Iv)))
  subst_vars; simp_all [M3.turn, zQW, qHZ, M3.zero, iv0, iv1]
 ·
  refine yU ?_
  refine qQ ?_
  refine qK ?_
  refine jV 6 mo (by kernel_rfl) ?_
  simp only [List.take_succ_cons, List.take_zero, List.drop_succ_cons, List.drop_zero]
  refine zH (qV 3 ty71 rfl rfl rfl) rfl rfl rfl ?_
  refine kK (F := iv) (zY en169 rfl (fun w _ => aCosOver _ _  w)) rfl rfl rfl ?_; intro r15 hr15
  refine zH (qV 3 ty71 rfl rfl rfl) rfl rfl rfl ?_
  refine kK (F := iv) (zY en170 rfl (fun w _ => aSinOver _ _  w)) rfl rfl rfl ?_; intro r17 hr17
  refine doG_alloc ze71 rfl rfl rfl rfl ?_
  refine doG_alloc ze71 rfl rfl rfl rfl ?_
  refine uU ?_
  refine tail_alloc 6 rfl ?_; intro b6_2
  refine tail_alloc 5 rfl ?_; intro b5_2
  refine kJ ?_
  refine qG 5 ty71 rfl rfl rfl rfl rfl rfl rfl rfl ?_
  refine qG 6 ty71 rfl rfl rfl rfl rfl rfl rfl rfl ?_
  refine qJ ?_
  refine qQ ?_
  refine qK ?_
  refine qZ ?_
  refine qY (qV 6 ty71 rfl rfl rfl) rfl rfl rfl ?_
  refine jG (F := iv) (zY en171 rfl (fun w _ => iNeg _ _  w)) rfl rfl rfl ?_; intro r19 hr19
  refine jG (F := iv) (zY en99 rfl (fun w _ => iOf _  w)) rfl rfl rfl ?_; intro r20 hr20
  refine jG (F := iv) (zY en99 rfl (fun w _ => iOf _  w)) rfl rfl rfl ?_; intro r21 hr21
  refine yK 7 ze71 rfl rfl rfl ?_; intro b7
  refine yK 8 ze71 rfl rfl rfl ?_; intro b8
  refine yK 9 ze71 rfl rfl rfl ?_; intro b9
  refine qG 7 ty71 rfl rfl rfl rfl rfl rfl rfl rfl ?_
  refine qG 8 ty71 rfl rfl rfl rfl rfl rfl rfl rfl ?_
  refine qG 9 ty71 rfl rfl rfl rfl rfl rfl rfl rfl ?_
  refine qJ ?_
  refine qQ ?_
  refine qK ?_
  refine qK ?_
  refine qZ ?_
  refine qY (qU rfl) rfl rfl rfl ?_
  refine qJ ?_
  refine qQ ?_
  refine jX ?_
  refine qK ?_
  refine qZ ?_
  refine qY (uK rfl rfl) rfl rfl rfl ?_
  refine qY (qW rfl) rfl rfl rfl ?_
  refine qJ ?_
  refine qQ ?_
  refine yX rfl (fun hc23 => ?_) (fun hc23 => ?_)
  ·
   refine qK ?_
   refine qZ ?_
   refine qY (qV 8 ty71 rfl rfl rfl) rfl rfl rfl ?_
   refine qY (qV 9 ty71 rfl rfl rfl) rfl rfl rfl ?_
   refine qY (qV 9 ty71 rfl rfl rfl) rfl rfl rfl ?_
   refine qY (zU la72 rfl rfl) rfl rfl rfl ?_
   refine qY (qV 9 ty71 rfl rfl rfl) rfl rfl rfl ?_
   refine qY (qV 5 ty71 rfl rfl rfl) rfl rfl rfl ?_
   refine qY (qV 7 ty71 rfl rfl rfl) rfl rfl rfl ?_
   refine qY (zU la72 rfl rfl) rfl rfl rfl ?_
   refine qY (qV 9 ty71 rfl rfl rfl) rfl rfl rfl ?_
   refine qY (qV 6 ty71 rfl rfl rfl) rfl rfl rfl ?_
   refine qY (qV 5 ty71 rfl rfl rfl) rfl rfl rfl ?_
   refine qY (zU la72 rfl rfl) rfl rfl rfl ?_
   refine qY (zU la74 rfl rfl) rfl rfl rfl ?_
   refine qG 4 ty74 rfl rfl rfl rfl rfl rfl rfl rfl ?_
   refine qJ ?_
   refine qQ ?_
   refine zV ?_
   refine uW ?_
   refine jZ ?_
   refine zQ (rs := [.cell 4 74]) rfl (resC (zJ 4 rfl rfl ty74 rfl) (resN)) (congrArg (m3) (?_ : ⟨⟨⟨_, _⟩, ⟨_, _⟩, ⟨_, _⟩⟩, ⟨⟨_, _⟩, ⟨_, _⟩, ⟨_, _⟩⟩, ⟨⟨_, _⟩, ⟨_, _⟩, ⟨_, _⟩⟩⟩ = M3.turn axis (⟨a0, a1⟩ : Iv)))
   subst_vars; simp_all [M3.turn, zQW, qHZ, M3.zero, iv0, iv1]
  ·
   refine qK ?_
   refine qZ ?_
   refine qY (uK rfl rfl) rfl rfl rfl ?_
   refine qY (qW rfl) rfl rfl rfl ?_
   refine qJ ?_
   refine qQ ?_
   refine yX rfl (fun hc38 => ?_) (fun hc38 => ?_)
   ·
    refine qK ?_
    refine qZ ?_
    refine qY (qV 5 ty71 rfl rfl rfl) rfl rfl rfl ?_
    refine qY (qV 9 ty71 rfl rfl rfl) rfl rfl rfl ?_
    refine qY (qV 6 ty71 rfl rfl rfl) rfl rfl rfl ?_
    refine qY (zU la72 rfl rfl) rfl rfl rfl ?_
    refine qY (qV 9 ty71 rfl rfl rfl) rfl rfl rfl ?_
    refine qY (qV 8 ty71 rfl rfl rfl) rfl rfl rfl ?_
    refine qY (qV 9 ty71 rfl rfl rfl) rfl rfl rfl ?_
    refine qY (zU la72 rfl rfl) rfl rfl rfl ?_
    refine qY (qV 7 ty71 rfl rfl rfl) rfl rfl rfl ?_
    refine qY (qV 9 ty71 rfl rfl rfl) rfl rfl rfl ?_
    refine qY (qV 5 ty71 rfl rfl rfl) rfl rfl rfl ?_
    refine qY (zU la72 rfl rfl) rfl rfl rfl ?_
    refine qY (zU la74 rfl rfl) rfl rfl rfl ?_
    refine qG 4 ty74 rfl rfl rfl rfl rfl rfl rfl rfl ?_
    refine qJ ?_
    refine qQ ?_
    refine zV ?_
    refine uW ?_
    refine jZ ?_
    refine zQ (rs := [.cell 4 74]) rfl (resC (zJ 4 rfl rfl ty74 rfl) (resN)) (congrArg (m3) (?_ : ⟨⟨⟨_, _⟩, ⟨_, _⟩, ⟨_, _⟩⟩, ⟨⟨_, _⟩, ⟨_, _⟩, ⟨_, _⟩⟩, ⟨⟨_, _⟩, ⟨_, _⟩, ⟨_, _⟩⟩⟩ = M3.turn axis (⟨a0, a1⟩ : Iv)))
    subst_vars; simp_all [M3.turn, zQW, qHZ, M3.zero, iv0, iv1]
   ·
    refine qK ?_
    refine qZ ?_
    refine qY (uK rfl rfl) rfl rfl rfl ?_
    refine qY (qW rfl) rfl rfl rfl ?_
    refine qJ ?_
    refine qQ ?_
    refine yX rfl (fun hc53 => ?_) (fun hc53 => ?_)
    ·
     refine qK ?_
     refine qZ ?_
     refine qY (qV 5 ty71 rfl rfl rfl) rfl rfl rfl ?_
     refine qY (qV 7 ty71 rfl rfl rfl) rfl rfl rfl ?_
     refine qY (qV 9 ty71 rfl rfl rfl) rfl rfl rfl ?_
     refine qY (zU la72 rfl rfl) rfl rfl rfl ?_
     refine qY (qV 6 ty71 rfl rfl rfl) rfl rfl rfl ?_
     refine qY (qV 5 ty71 rfl rfl rfl) rfl rfl rfl ?_
     refine qY (qV 9 ty71 rfl rfl rfl) rfl rfl rfl ?_
     refine qY (zU la72 rfl rfl) rfl rfl rfl ?_
     refine qY (qV 9 ty71 rfl rfl rfl) rfl rfl rfl ?_
     refine qY (qV 9 ty71 rfl rfl rfl) rfl rfl rfl ?_
     refine qY (qV 8 ty71 rfl rfl rfl) rfl rfl rfl ?_
     refine qY (zU la72 rfl rfl) rfl rfl rfl ?_
     refine qY (zU la74 rfl rfl) rfl rfl rfl ?_
     refine qG 4 ty74 rfl rfl rfl rfl rfl rfl rfl rfl ?_
     refine qJ ?_
     refine qQ ?_
     refine zV ?_
     refine uW ?_
     refine jZ ?_
     refine zQ (rs := [.cell 4 74]) rfl (resC (zJ 4 rfl rfl ty74 rfl) (resN)) (congrArg (m3) (?_ : ⟨⟨⟨_, _⟩, ⟨_, _⟩, ⟨_, _⟩⟩, ⟨⟨_, _⟩, ⟨_, _⟩, ⟨_, _⟩⟩, ⟨⟨_, _⟩, ⟨_, _⟩, ⟨_, _⟩⟩⟩ = M3.turn axis (⟨a0, a1⟩ : Iv)))
     subst_vars; simp_all [M3.turn, zQW, qHZ, M3.zero, iv0, iv1]
    ·
     refine yU ?_
     refine qH ?_
     refine qQ ?_
     refine qK ?_
     refine qZ ?_
     refine qY (zU la74 rfl rfl) rfl rfl rfl ?_
     refine qG 4 ty74 rfl rfl rfl rfl rfl rfl rfl rfl ?_
     refine qJ ?_
     refine qQ ?_
     refine zV ?_
     refine zQ (rs := [.cell 4 74]) rfl (resC (zJ 4 rfl rfl ty74 rfl) (resN)) (congrArg (m3) (?_ : ⟨⟨⟨_, _⟩, ⟨_, _⟩, ⟨_, _⟩⟩, ⟨⟨_, _⟩, ⟨_, _⟩, ⟨_, _⟩⟩, ⟨⟨_, _⟩, ⟨_, _⟩, ⟨_, _⟩⟩⟩ = M3.turn axis (⟨a0, a1⟩ : Iv)))
     subst_vars; simp_all [M3.turn, zQW, qHZ, M3.zero, iv0, iv1]
theorem rTurn (axis : Int) (a0 a1 : Int) (w : World) : Calls Tryz.prog 152 [.int .i64 axis, .agg #[.int .i64 a0, .int .i64 a1]].toArray w (Rets (m3 (M3.turn axis (⟨a0, a1⟩ : Iv))) (w)) := by
 refine zK (n := 67) Tryz.func152 rfl rfl rfl ?_
 refine qK ?_
 refine qZ ?_
 refine jJ 3 rfl rfl rfl rfl ?_; intro b3
 refine yK 4 ze74 rfl rfl rfl ?_; intro b4
 refine qJ ?_
 refine qQ ?_
 refine qK ?_
 refine qK ?_
 refine qZ ?_
 refine qY (qV 3 ty71 rfl rfl rfl) rfl rfl rfl ?_
 refine jG (F := vB) (zY en147 rfl (fun w _ => zQQ _ _  w)) rfl rfl rfl ?_; intro r10 hr10
 refine qY (qUW rfl) rfl rfl rfl ?_
 refine qJ ?_
 refine qQ ?_
 refine yX rfl (fun hc11 => ?_) (fun hc11 => ?_)
 ·
  refine qK ?_
  refine qZ ?_
  refine qY (zU la74 rfl rfl) rfl rfl rfl ?_
  refine qG 4 ty74 rfl rfl rfl rfl rfl rfl rfl rfl ?_
  refine qJ ?_
  refine qQ ?_
  refine zV ?_
  refine jZ ?_
  refine zQ (rs := [.cell 4 74]) rfl (resC (zJ 4 rfl rfl ty74 rfl) (resN)) (congrArg (m3) (?_ : ⟨⟨⟨_, _⟩, ⟨_, _⟩, ⟨_, _⟩⟩, ⟨⟨_, _⟩, ⟨_, _⟩, ⟨_, _⟩⟩, ⟨⟨_, _⟩, ⟨_, _⟩, ⟨_, _⟩⟩⟩ = M3.turn axis (⟨a0, a1⟩ : Iv)))
  subst_vars; simp_all [M3.turn, zQW, qHZ, M3.zero, iv0, iv1]
 ·
  refine yU ?_
  refine qQ ?_
  refine qK ?_
  refine jV 8 mo (by kernel_rfl) ?_
  simp only [List.take_succ_cons, List.take_zero, List.drop_succ_cons, List.drop_zero]
  refine kK (F := iv) (zY en31 rfl (fun w _ => rOf _  w)) rfl rfl rfl ?_; intro r13 hr13
  refine zH (qV 3 ty71 rfl rfl rfl) rfl rfl rfl ?_
  refine kK (F := iv) (zY en163 rfl (fun w _ => rCosOver _ _  w)) rfl rfl rfl ?_; intro r15 hr15
  refine zH (qV 3 ty71 rfl rfl rfl) rfl rfl rfl ?_
  refine kK (F := iv) (zY en164 rfl (fun w _ => rSinOver _ _  w)) rfl rfl rfl ?_; intro r17 hr17
  refine doG_alloc ze71 rfl rfl rfl rfl ?_
  refine doG_alloc ze71 rfl rfl rfl rfl ?_
  refine doG_alloc ze71 rfl rfl rfl rfl ?_
  refine uU ?_
  refine tail_alloc 7 rfl ?_; intro b7_2
  refine tail_alloc 6 rfl ?_; intro b6_2
  refine tail_alloc 5 rfl ?_; intro b5_2
  refine kJ ?_
  refine qG 5 ty71 rfl rfl rfl rfl rfl rfl rfl rfl ?_
  refine qG 6 ty71 rfl rfl rfl rfl rfl rfl rfl rfl ?_
  refine qG 7 ty71 rfl rfl rfl rfl rfl rfl rfl rfl ?_
  refine qJ ?_
  refine qQ ?_
  refine qK ?_
  refine qZ ?_
  refine qY (qV 7 ty71 rfl rfl rfl) rfl rfl rfl ?_
  refine jG (F := iv) (zY en165 rfl (fun w _ => rNeg _ _  w)) rfl rfl rfl ?_; intro r19 hr19
  refine yK 8 ze71 rfl rfl rfl ?_; intro b8
  refine qG 8 ty71 rfl rfl rfl rfl rfl rfl rfl rfl ?_
  refine qJ ?_
  refine qQ ?_
  refine qK ?_
  refine qK ?_
  refine qZ ?_
  refine qY (qU rfl) rfl rfl rfl ?_
  refine qJ ?_
  refine qQ ?_
  refine jX ?_
  refine qK ?_
  refine qZ ?_
  refine qY (uK rfl rfl) rfl rfl rfl ?_
  refine qY (qW rfl) rfl rfl rfl ?_
  refine qJ ?_
  refine qQ ?_
  refine yX rfl (fun hc21 => ?_) (fun hc21 => ?_)
  ·
   refine qK ?_
   refine qZ ?_
   refine qY (qV 5 ty71 rfl rfl rfl) rfl rfl rfl ?_
   refine qY (zU la71 rfl rfl) rfl rfl rfl ?_
   refine qY (zU la71 rfl rfl) rfl rfl rfl ?_
   refine qY (zU la72 rfl rfl) rfl rfl rfl ?_
   refine qY (zU la71 rfl rfl) rfl rfl rfl ?_
   refine qY (qV 6 ty71 rfl rfl rfl) rfl rfl rfl ?_
   refine qY (qV 8 ty71 rfl rfl rfl) rfl rfl rfl ?_
   refine qY (zU la72 rfl rfl) rfl rfl rfl ?_
   refine qY (zU la71 rfl rfl) rfl rfl rfl ?_
   refine qY (qV 7 ty71 rfl rfl rfl) rfl rfl rfl ?_
   refine qY (qV 6 ty71 rfl rfl rfl) rfl rfl rfl ?_
   refine qY (zU la72 rfl rfl) rfl rfl rfl ?_
   refine qY (zU la74 rfl rfl) rfl rfl rfl ?_
   refine qG 4 ty74 rfl rfl rfl rfl rfl rfl rfl rfl ?_
   refine qJ ?_
   refine qQ ?_
   refine zV ?_
   refine uW ?_
   refine jZ ?_
   refine zQ (rs := [.cell 4 74]) rfl (resC (zJ 4 rfl rfl ty74 rfl) (resN)) (congrArg (m3) (?_ : ⟨⟨⟨_, _⟩, ⟨_, _⟩, ⟨_, _⟩⟩, ⟨⟨_, _⟩, ⟨_, _⟩, ⟨_, _⟩⟩, ⟨⟨_, _⟩, ⟨_, _⟩, ⟨_, _⟩⟩⟩ = M3.turn axis (⟨a0, a1⟩ : Iv)))
   subst_vars; simp_all [M3.turn, zQW, qHZ, M3.zero, iv0, iv1]
  ·
   refine qK ?_
   refine qZ ?_
   refine qY (uK rfl rfl) rfl rfl rfl ?_
   refine qY (qW rfl) rfl rfl rfl ?_
   refine qJ ?_
   refine qQ ?_
   refine yX rfl (fun hc36 => ?_) (fun hc36 => ?_)
   ·
    refine qK ?_
    refine qZ ?_
    refine qY (qV 6 ty71 rfl rfl rfl) rfl rfl rfl ?_
    refine qY (zU la71 rfl rfl) rfl rfl rfl ?_
    refine qY (qV 7 ty71 rfl rfl rfl) rfl rfl rfl ?_
    refine qY (zU la72 rfl rfl) rfl rfl rfl ?_
    refine qY (zU la71 rfl rfl) rfl rfl rfl ?_
    refine qY (qV 5 ty71 rfl rfl rfl) rfl rfl rfl ?_
    refine qY (zU la71 rfl rfl) rfl rfl rfl ?_
    refine qY (zU la72 rfl rfl) rfl rfl rfl ?_
    refine qY (qV 8 ty71 rfl rfl rfl) rfl rfl rfl ?_
    refine qY (zU la71 rfl rfl) rfl rfl rfl ?_
    refine qY (qV 6 ty71 rfl rfl rfl) rfl rfl rfl ?_
    refine qY (zU la72 rfl rfl) rfl rfl rfl ?_
    refine qY (zU la74 rfl rfl) rfl rfl rfl ?_
    refine qG 4 ty74 rfl rfl rfl rfl rfl rfl rfl rfl ?_
    refine qJ ?_
    refine qQ ?_
    refine zV ?_
    refine uW ?_
    refine jZ ?_
    refine zQ (rs := [.cell 4 74]) rfl (resC (zJ 4 rfl rfl ty74 rfl) (resN)) (congrArg (m3) (?_ : ⟨⟨⟨_, _⟩, ⟨_, _⟩, ⟨_, _⟩⟩, ⟨⟨_, _⟩, ⟨_, _⟩, ⟨_, _⟩⟩, ⟨⟨_, _⟩, ⟨_, _⟩, ⟨_, _⟩⟩⟩ = M3.turn axis (⟨a0, a1⟩ : Iv)))
    subst_vars; simp_all [M3.turn, zQW, qHZ, M3.zero, iv0, iv1]
   ·
    refine qK ?_
    refine qZ ?_
    refine qY (uK rfl rfl) rfl rfl rfl ?_
    refine qY (qW rfl) rfl rfl rfl ?_
    refine qJ ?_
    refine qQ ?_
    refine yX rfl (fun hc51 => ?_) (fun hc51 => ?_)
    ·
     refine qK ?_
     refine qZ ?_
     refine qY (qV 6 ty71 rfl rfl rfl) rfl rfl rfl ?_
     refine qY (qV 8 ty71 rfl rfl rfl) rfl rfl rfl ?_
     refine qY (zU la71 rfl rfl) rfl rfl rfl ?_
     refine qY (zU la72 rfl rfl) rfl rfl rfl ?_
     refine qY (qV 7 ty71 rfl rfl rfl) rfl rfl rfl ?_
     refine qY (qV 6 ty71 rfl rfl rfl) rfl rfl rfl ?_
     refine qY (zU la71 rfl rfl) rfl rfl rfl ?_
     refine qY (zU la72 rfl rfl) rfl rfl rfl ?_
     refine qY (zU la71 rfl rfl) rfl rfl rfl ?_
     refine qY (zU la71 rfl rfl) rfl rfl rfl ?_
     refine qY (qV 5 ty71 rfl rfl rfl) rfl rfl rfl ?_
     refine qY (zU la72 rfl rfl) rfl rfl rfl ?_
     refine qY (zU la74 rfl rfl) rfl rfl rfl ?_
     refine qG 4 ty74 rfl rfl rfl rfl rfl rfl rfl rfl ?_
     refine qJ ?_
     refine qQ ?_
     refine zV ?_
     refine uW ?_
     refine jZ ?_
     refine zQ (rs := [.cell 4 74]) rfl (resC (zJ 4 rfl rfl ty74 rfl) (resN)) (congrArg (m3) (?_ : ⟨⟨⟨_, _⟩, ⟨_, _⟩, ⟨_, _⟩⟩, ⟨⟨_, _⟩, ⟨_, _⟩, ⟨_, _⟩⟩, ⟨⟨_, _⟩, ⟨_, _⟩, ⟨_, _⟩⟩⟩ = M3.turn axis (⟨a0, a1⟩ : Iv)))
     subst_vars; simp_all [M3.turn, zQW, qHZ, M3.zero, iv0, iv1]
    ·
     refine yU ?_
     refine qH ?_
     refine qQ ?_
     refine qK ?_
     refine qZ ?_
     refine qY (zU la74 rfl rfl) rfl rfl rfl ?_
     refine qG 4 ty74 rfl rfl rfl rfl rfl rfl rfl rfl ?_
     refine qJ ?_
     refine qQ ?_
     refine zV ?_
     refine zQ (rs := [.cell 4 74]) rfl (resC (zJ 4 rfl rfl ty74 rfl) (resN)) (congrArg (m3) (?_ : ⟨⟨⟨_, _⟩, ⟨_, _⟩, ⟨_, _⟩⟩, ⟨⟨_, _⟩, ⟨_, _⟩, ⟨_, _⟩⟩, ⟨⟨_, _⟩, ⟨_, _⟩, ⟨_, _⟩⟩⟩ = M3.turn axis (⟨a0, a1⟩ : Iv)))
     subst_vars; simp_all [M3.turn, zQW, qHZ, M3.zero, iv0, iv1]
end Go.Proofs.YtmbnpjpggccefaaGreat
namespace Go.Proofs.YtmbnpjpggccefaaGreat
open Go.Rx Rt Go.Sx Go.RowKit
namespace VM2
noncomputable def o_iAdd : List PV → Option (Bool × Ret) := fun ps => match ps with
 | [.a a', .a b'] => (ivD a').bind fun a => (ivD b').bind fun b => some (true, .v (.a (ivC (Iv.add a b))))
 | _ => none
theorem ok_iAdd : OneOk Tryz.prog 142 o_iAdd := by
 intro ps r h
 unfold o_iAdd at h
 split at h
 ·simp only [Option.bind_eq_some_iff, Option.some.injEq, Prod.mk.injEq] at h
  obtain ⟨a, ha, b, hb, hg, rfl⟩ := h
  rw [qJU ha]
  rw [qJU hb]
  exact yJ (zZ Tryz.func142 (by kernel_rfl) (by kernel_rfl)) rfl rfl (fun w => iAdd _ _ _ _ w)
 ·cases h
noncomputable def L1 : OrL := (142, o_iAdd) :: ([] : OrL)
theorem zYU : AllP (fun x : Nat × (List PV → Option (Bool × Ret)) => OneOk Tryz.prog x.1 x.2) L1 := ⟨ok_iAdd, trivial⟩
noncomputable def o_iMul : List PV → Option (Bool × Ret) := fun ps => match ps with
 | [.a a', .a b'] => (ivD a').bind fun a => (ivD b').bind fun b => some (true, .v (.a (ivC (Iv.mul a b))))
 | _ => none
theorem ok_iMul : OneOk Tryz.prog 143 o_iMul := by
 intro ps r h
 unfold o_iMul at h
 split at h
 ·simp only [Option.bind_eq_some_iff, Option.some.injEq, Prod.mk.injEq] at h
  obtain ⟨a, ha, b, hb, hg, rfl⟩ := h
  rw [qJU ha]
  rw [qJU hb]
  exact yJ (zZ Tryz.func143 (by kernel_rfl) (by kernel_rfl)) rfl rfl (fun w => iMul _ _ _ _ w)
 ·cases h
noncomputable def L2 : OrL := (143, o_iMul) :: L1
theorem zYJ : AllP (fun x : Nat × (List PV → Option (Bool × Ret)) => OneOk Tryz.prog x.1 x.2) L2 := ⟨ok_iMul, zYU⟩
noncomputable def o_rMul : List PV → Option (Bool × Ret) := fun ps => match ps with
 | [.a a', .a b'] => (ivD a').bind fun a => (ivD b').bind fun b => some (true, .v (.a (ivC (Iv.mul a b))))
 | _ => none
theorem ok_rMul : OneOk Tryz.prog 104 o_rMul := by
 intro ps r h
 unfold o_rMul at h
 split at h
 ·simp only [Option.bind_eq_some_iff, Option.some.injEq, Prod.mk.injEq] at h
  obtain ⟨a, ha, b, hb, hg, rfl⟩ := h
  rw [qJU ha]
  rw [qJU hb]
  exact yJ (zZ Tryz.func104 (by kernel_rfl) (by kernel_rfl)) rfl rfl (fun w => rMul _ _ _ _ w)
 ·cases h
noncomputable def L3 : OrL := (104, o_rMul) :: L2
theorem L3_ok : AllP (fun x : Nat × (List PV → Option (Bool × Ret)) => OneOk Tryz.prog x.1 x.2) L3 := ⟨ok_rMul, zYJ⟩
noncomputable def o_rAdd : List PV → Option (Bool × Ret) := fun ps => match ps with
 | [.a a', .a b'] => (ivD a').bind fun a => (ivD b').bind fun b => some (true, .v (.a (ivC (Iv.add a b))))
 | _ => none
theorem ok_rAdd : OneOk Tryz.prog 103 o_rAdd := by
 intro ps r h
 unfold o_rAdd at h
 split at h
 ·simp only [Option.bind_eq_some_iff, Option.some.injEq, Prod.mk.injEq] at h
  obtain ⟨a, ha, b, hb, hg, rfl⟩ := h
  rw [qJU ha]
  rw [qJU hb]
  exact yJ (zZ Tryz.func103 (by kernel_rfl) (by kernel_rfl)) rfl rfl (fun w => rAdd _ _ _ _ w)
 ·cases h
noncomputable def L4 : OrL := (103, o_rAdd) :: L3
theorem zYK : AllP (fun x : Nat × (List PV → Option (Bool × Ret)) => OneOk Tryz.prog x.1 x.2) L4 := ⟨ok_rAdd, L3_ok⟩
end VM2
open VM2
set_option maxRecDepth 100000 in
theorem mCompose (p0 p1 p2 p3 p4 p5 p6 p7 p8 p9 p10 p11 p12 p13 p14 p15 p16 p17 : Int) (q0 q1 q2 q3 q4 q5 q6 q7 q8 q9 q10 q11 q12 q13 q14 q15 q16 q17 : Int) (w : World) : Calls Tryz.prog 97 [.agg #[.int .i64 p0, .int .i64 p1, .int .i64 p2, .int .i64 p3, .int .i64 p4, .int .i64 p5, .int .i64 p6, .int .i64 p7, .int .i64 p8, .int .i64 p9, .int .i64 p10, .int .i64 p11, .int .i64 p12, .int .i64 p13, .int .i64 p14, .int .i64 p15, .int .i64 p16, .int .i64 p17], .agg #[.int .i64 q0, .int .i64 q1, .int .i64 q2, .int .i64 q3, .int .i64 q4, .int .i64 q5, .int .i64 q6, .int .i64 q7, .int .i64 q8, .int .i64 q9, .int .i64 q10, .int .i64 q11, .int .i64 q12, .int .i64 q13, .int .i64 q14, .int .i64 q15, .int .i64 q16, .int .i64 q17]].toArray w (Rets (m3 (M3.mul ((M3.mk (V3.mk (Iv.mk p0 p1) (Iv.mk p2 p3) (Iv.mk p4 p5)) (V3.mk (Iv.mk p6 p7) (Iv.mk p8 p9) (Iv.mk p10 p11)) (V3.mk (Iv.mk p12 p13) (Iv.mk p14 p15) (Iv.mk p16 p17))) : M3) ((M3.mk (V3.mk (Iv.mk q0 q1) (Iv.mk q2 q3) (Iv.mk q4 q5)) (V3.mk (Iv.mk q6 q7) (Iv.mk q8 q9) (Iv.mk q10 q11)) (V3.mk (Iv.mk q12 q13) (Iv.mk q14 q15) (Iv.mk q16 q17))) : M3))) w) :=
 uY (x := .a (m3C (M3.mul ((M3.mk (V3.mk (Iv.mk p0 p1) (Iv.mk p2 p3) (Iv.mk p4 p5)) (V3.mk (Iv.mk p6 p7) (Iv.mk p8 p9) (Iv.mk p10 p11)) (V3.mk (Iv.mk p12 p13) (Iv.mk p14 p15) (Iv.mk p16 p17))) : M3) ((M3.mk (V3.mk (Iv.mk q0 q1) (Iv.mk q2 q3) (Iv.mk q4 q5)) (V3.mk (Iv.mk q6 q7) (Iv.mk q8 q9) (Iv.mk q10 q11)) (V3.mk (Iv.mk q12 q13) (Iv.mk q14 q15) (Iv.mk q16 q17))) : M3)))) (yV (N := 60) (ps := [.a [.n .i64 p0, .n .i64 p1, .n .i64 p2, .n .i64 p3, .n .i64 p4, .n .i64 p5, .n .i64 p6, .n .i64 p7, .n .i64 p8, .n .i64 p9, .n .i64 p10, .n .i64 p11, .n .i64 p12, .n .i64 p13, .n .i64 p14, .n .i64 p15, .n .i64 p16, .n .i64 p17], .a [.n .i64 q0, .n .i64 q1, .n .i64 q2, .n .i64 q3, .n .i64 q4, .n .i64 q5, .n .i64 q6, .n .i64 q7, .n .i64 q8, .n .i64 q9, .n .i64 q10, .n .i64 q11, .n .i64 q12, .n .i64 q13, .n .i64 q14, .n .i64 q15, .n .i64 q16, .n .i64 q17]]) tabOk mixed (OrL.ok (l := L4) zYK) ((by kernel_rfl : _ = some (.v (.a [.n .i64 (min (max (Iv.add (Iv.add (Iv.add (Iv.mk 0 0) (Iv.mul (Iv.mk p0 p1) (Iv.mk q0 q1))) (Iv.mul (Iv.mk p2 p3) (Iv.mk q6 q7))) (Iv.mul (Iv.mk p4 p5) (Iv.mk q12 q13))).lo (-65536)) 65536), .n .i64 (min (max (Iv.add (Iv.add (Iv.add (Iv.mk 0 0) (Iv.mul (Iv.mk p0 p1) (Iv.mk q0 q1))) (Iv.mul (Iv.mk p2 p3) (Iv.mk q6 q7))) (Iv.mul (Iv.mk p4 p5) (Iv.mk q12 q13))).hi (-65536)) 65536), .n .i64 (min (max (Iv.add (Iv.add (Iv.add (Iv.mk 0 0) (Iv.mul (Iv.mk p0 p1) (Iv.mk q2 q3))) (Iv.mul (Iv.mk p2 p3) (Iv.mk q8 q9))) (Iv.mul (Iv.mk p4 p5) (Iv.mk q14 q15))).lo (-65536)) 65536), .n .i64 (min (max (Iv.add (Iv.add (Iv.add (Iv.mk 0 0) (Iv.mul (Iv.mk p0 p1) (Iv.mk q2 q3))) (Iv.mul (Iv.mk p2 p3) (Iv.mk q8 q9))) (Iv.mul (Iv.mk p4 p5) (Iv.mk q14 q15))).hi (-65536)) 65536), .n .i64 (min (max (Iv.add (Iv.add (Iv.add (Iv.mk 0 0) (Iv.mul (Iv.mk p0 p1) (Iv.mk q4 q5))) (Iv.mul (Iv.mk p2 p3) (Iv.mk q10 q11))) (Iv.mul (Iv.mk p4 p5) (Iv.mk q16 q17))).lo (-65536)) 65536), .n .i64 (min (max (Iv.add (Iv.add (Iv.add (Iv.mk 0 0) (Iv.mul (Iv.mk p0 p1) (Iv.mk q4 q5))) (Iv.mul (Iv.mk p2 p3) (Iv.mk q10 q11))) (Iv.mul (Iv.mk p4 p5) (Iv.mk q16 q17))).hi (-65536)) 65536), .n .i64 (min (max (Iv.add (Iv.add (Iv.add (Iv.mk 0 0) (Iv.mul (Iv.mk p6 p7) (Iv.mk q0 q1))) (Iv.mul (Iv.mk p8 p9) (Iv.mk q6 q7))) (Iv.mul (Iv.mk p10 p11) (Iv.mk q12 q13))).lo (-65536)) 65536), .n .i64 (min (max (Iv.add (Iv.add (Iv.add (Iv.mk 0 0) (Iv.mul (Iv.mk p6 p7) (Iv.mk q0 q1))) (Iv.mul (Iv.mk p8 p9) (Iv.mk q6 q7))) (Iv.mul (Iv.mk p10 p11) (Iv.mk q12 q13))).hi (-65536)) 65536), .n .i64 (min (max (Iv.add (Iv.add (Iv.add (Iv.mk 0 0) (Iv.mul (Iv.mk p6 p7) (Iv.mk q2 q3))) (Iv.mul (Iv.mk p8 p9) (Iv.mk q8 q9))) (Iv.mul (Iv.mk p10 p11) (Iv.mk q14 q15))).lo (-65536)) 65536), .n .i64 (min (max (Iv.add (Iv.add (Iv.add (Iv.mk 0 0) (Iv.mul (Iv.mk p6 p7) (Iv.mk q2 q3))) (Iv.mul (Iv.mk p8 p9) (Iv.mk q8 q9))) (Iv.mul (Iv.mk p10 p11) (Iv.mk q14 q15))).hi (-65536)) 65536), .n .i64 (min (max (Iv.add (Iv.add (Iv.add (Iv.mk 0 0) (Iv.mul (Iv.mk p6 p7) (Iv.mk q4 q5))) (Iv.mul (Iv.mk p8 p9) (Iv.mk q10 q11))) (Iv.mul (Iv.mk p10 p11) (Iv.mk q16 q17))).lo (-65536)) 65536), .n .i64 (min (max (Iv.add (Iv.add (Iv.add (Iv.mk 0 0) (Iv.mul (Iv.mk p6 p7) (Iv.mk q4 q5))) (Iv.mul (Iv.mk p8 p9) (Iv.mk q10 q11))) (Iv.mul (Iv.mk p10 p11) (Iv.mk q16 q17))).hi (-65536)) 65536), .n .i64 (min (max (Iv.add (Iv.add (Iv.add (Iv.mk 0 0) (Iv.mul (Iv.mk p12 p13) (Iv.mk q0 q1))) (Iv.mul (Iv.mk p14 p15) (Iv.mk q6 q7))) (Iv.mul (Iv.mk p16 p17) (Iv.mk q12 q13))).lo (-65536)) 65536), .n .i64 (min (max (Iv.add (Iv.add (Iv.add (Iv.mk 0 0) (Iv.mul (Iv.mk p12 p13) (Iv.mk q0 q1))) (Iv.mul (Iv.mk p14 p15) (Iv.mk q6 q7))) (Iv.mul (Iv.mk p16 p17) (Iv.mk q12 q13))).hi (-65536)) 65536), .n .i64 (min (max (Iv.add (Iv.add (Iv.add (Iv.mk 0 0) (Iv.mul (Iv.mk p12 p13) (Iv.mk q2 q3))) (Iv.mul (Iv.mk p14 p15) (Iv.mk q8 q9))) (Iv.mul (Iv.mk p16 p17) (Iv.mk q14 q15))).lo (-65536)) 65536), .n .i64 (min (max (Iv.add (Iv.add (Iv.add (Iv.mk 0 0) (Iv.mul (Iv.mk p12 p13) (Iv.mk q2 q3))) (Iv.mul (Iv.mk p14 p15) (Iv.mk q8 q9))) (Iv.mul (Iv.mk p16 p17) (Iv.mk q14 q15))).hi (-65536)) 65536), .n .i64 (min (max (Iv.add (Iv.add (Iv.add (Iv.mk 0 0) (Iv.mul (Iv.mk p12 p13) (Iv.mk q4 q5))) (Iv.mul (Iv.mk p14 p15) (Iv.mk q10 q11))) (Iv.mul (Iv.mk p16 p17) (Iv.mk q16 q17))).lo (-65536)) 65536), .n .i64 (min (max (Iv.add (Iv.add (Iv.add (Iv.mk 0 0) (Iv.mul (Iv.mk p12 p13) (Iv.mk q4 q5))) (Iv.mul (Iv.mk p14 p15) (Iv.mk q10 q11))) (Iv.mul (Iv.mk p16 p17) (Iv.mk q16 q17))).hi (-65536)) 65536)]), [])).trans (by simp only [add_zero_mul]; rfl))) rfl rfl w
set_option maxRecDepth 100000 in
theorem rCompose (p0 p1 p2 p3 p4 p5 p6 p7 p8 p9 p10 p11 p12 p13 p14 p15 p16 p17 : Int) (q0 q1 q2 q3 q4 q5 q6 q7 q8 q9 q10 q11 q12 q13 q14 q15 q16 q17 : Int) (w : World) : Calls Tryz.prog 111 [.agg #[.int .i64 p0, .int .i64 p1, .int .i64 p2, .int .i64 p3, .int .i64 p4, .int .i64 p5, .int .i64 p6, .int .i64 p7, .int .i64 p8, .int .i64 p9, .int .i64 p10, .int .i64 p11, .int .i64 p12, .int .i64 p13, .int .i64 p14, .int .i64 p15, .int .i64 p16, .int .i64 p17], .agg #[.int .i64 q0, .int .i64 q1, .int .i64 q2, .int .i64 q3, .int .i64 q4, .int .i64 q5, .int .i64 q6, .int .i64 q7, .int .i64 q8, .int .i64 q9, .int .i64 q10, .int .i64 q11, .int .i64 q12, .int .i64 q13, .int .i64 q14, .int .i64 q15, .int .i64 q16, .int .i64 q17]].toArray w (Rets (m3 (M3.mul ((M3.mk (V3.mk (Iv.mk p0 p1) (Iv.mk p2 p3) (Iv.mk p4 p5)) (V3.mk (Iv.mk p6 p7) (Iv.mk p8 p9) (Iv.mk p10 p11)) (V3.mk (Iv.mk p12 p13) (Iv.mk p14 p15) (Iv.mk p16 p17))) : M3) ((M3.mk (V3.mk (Iv.mk q0 q1) (Iv.mk q2 q3) (Iv.mk q4 q5)) (V3.mk (Iv.mk q6 q7) (Iv.mk q8 q9) (Iv.mk q10 q11)) (V3.mk (Iv.mk q12 q13) (Iv.mk q14 q15) (Iv.mk q16 q17))) : M3))) w) :=
 uY (x := .a (m3C (M3.mul ((M3.mk (V3.mk (Iv.mk p0 p1) (Iv.mk p2 p3) (Iv.mk p4 p5)) (V3.mk (Iv.mk p6 p7) (Iv.mk p8 p9) (Iv.mk p10 p11)) (V3.mk (Iv.mk p12 p13) (Iv.mk p14 p15) (Iv.mk p16 p17))) : M3) ((M3.mk (V3.mk (Iv.mk q0 q1) (Iv.mk q2 q3) (Iv.mk q4 q5)) (V3.mk (Iv.mk q6 q7) (Iv.mk q8 q9) (Iv.mk q10 q11)) (V3.mk (Iv.mk q12 q13) (Iv.mk q14 q15) (Iv.mk q16 q17))) : M3)))) (yV (N := 60) (ps := [.a [.n .i64 p0, .n .i64 p1, .n .i64 p2, .n .i64 p3, .n .i64 p4, .n .i64 p5, .n .i64 p6, .n .i64 p7, .n .i64 p8, .n .i64 p9, .n .i64 p10, .n .i64 p11, .n .i64 p12, .n .i64 p13, .n .i64 p14, .n .i64 p15, .n .i64 p16, .n .i64 p17], .a [.n .i64 q0, .n .i64 q1, .n .i64 q2, .n .i64 q3, .n .i64 q4, .n .i64 q5, .n .i64 q6, .n .i64 q7, .n .i64 q8, .n .i64 q9, .n .i64 q10, .n .i64 q11, .n .i64 q12, .n .i64 q13, .n .i64 q14, .n .i64 q15, .n .i64 q16, .n .i64 q17]]) tabOk mixed (OrL.ok (l := L4) zYK) ((by kernel_rfl : _ = some (.v (.a [.n .i64 (max (-65536) (min (Iv.add (Iv.add (Iv.mul (Iv.mk p0 p1) (Iv.mk q0 q1)) (Iv.mul (Iv.mk p2 p3) (Iv.mk q6 q7))) (Iv.mul (Iv.mk p4 p5) (Iv.mk q12 q13))).lo 65536)), .n .i64 (max (-65536) (min (Iv.add (Iv.add (Iv.mul (Iv.mk p0 p1) (Iv.mk q0 q1)) (Iv.mul (Iv.mk p2 p3) (Iv.mk q6 q7))) (Iv.mul (Iv.mk p4 p5) (Iv.mk q12 q13))).hi 65536)), .n .i64 (max (-65536) (min (Iv.add (Iv.add (Iv.mul (Iv.mk p0 p1) (Iv.mk q2 q3)) (Iv.mul (Iv.mk p2 p3) (Iv.mk q8 q9))) (Iv.mul (Iv.mk p4 p5) (Iv.mk q14 q15))).lo 65536)), .n .i64 (max (-65536) (min (Iv.add (Iv.add (Iv.mul (Iv.mk p0 p1) (Iv.mk q2 q3)) (Iv.mul (Iv.mk p2 p3) (Iv.mk q8 q9))) (Iv.mul (Iv.mk p4 p5) (Iv.mk q14 q15))).hi 65536)), .n .i64 (max (-65536) (min (Iv.add (Iv.add (Iv.mul (Iv.mk p0 p1) (Iv.mk q4 q5)) (Iv.mul (Iv.mk p2 p3) (Iv.mk q10 q11))) (Iv.mul (Iv.mk p4 p5) (Iv.mk q16 q17))).lo 65536)), .n .i64 (max (-65536) (min (Iv.add (Iv.add (Iv.mul (Iv.mk p0 p1) (Iv.mk q4 q5)) (Iv.mul (Iv.mk p2 p3) (Iv.mk q10 q11))) (Iv.mul (Iv.mk p4 p5) (Iv.mk q16 q17))).hi 65536)), .n .i64 (max (-65536) (min (Iv.add (Iv.add (Iv.mul (Iv.mk p6 p7) (Iv.mk q0 q1)) (Iv.mul (Iv.mk p8 p9) (Iv.mk q6 q7))) (Iv.mul (Iv.mk p10 p11) (Iv.mk q12 q13))).lo 65536)), .n .i64 (max (-65536) (min (Iv.add (Iv.add (Iv.mul (Iv.mk p6 p7) (Iv.mk q0 q1)) (Iv.mul (Iv.mk p8 p9) (Iv.mk q6 q7))) (Iv.mul (Iv.mk p10 p11) (Iv.mk q12 q13))).hi 65536)), .n .i64 (max (-65536) (min (Iv.add (Iv.add (Iv.mul (Iv.mk p6 p7) (Iv.mk q2 q3)) (Iv.mul (Iv.mk p8 p9) (Iv.mk q8 q9))) (Iv.mul (Iv.mk p10 p11) (Iv.mk q14 q15))).lo 65536)), .n .i64 (max (-65536) (min (Iv.add (Iv.add (Iv.mul (Iv.mk p6 p7) (Iv.mk q2 q3)) (Iv.mul (Iv.mk p8 p9) (Iv.mk q8 q9))) (Iv.mul (Iv.mk p10 p11) (Iv.mk q14 q15))).hi 65536)), .n .i64 (max (-65536) (min (Iv.add (Iv.add (Iv.mul (Iv.mk p6 p7) (Iv.mk q4 q5)) (Iv.mul (Iv.mk p8 p9) (Iv.mk q10 q11))) (Iv.mul (Iv.mk p10 p11) (Iv.mk q16 q17))).lo 65536)), .n .i64 (max (-65536) (min (Iv.add (Iv.add (Iv.mul (Iv.mk p6 p7) (Iv.mk q4 q5)) (Iv.mul (Iv.mk p8 p9) (Iv.mk q10 q11))) (Iv.mul (Iv.mk p10 p11) (Iv.mk q16 q17))).hi 65536)), .n .i64 (max (-65536) (min (Iv.add (Iv.add (Iv.mul (Iv.mk p12 p13) (Iv.mk q0 q1)) (Iv.mul (Iv.mk p14 p15) (Iv.mk q6 q7))) (Iv.mul (Iv.mk p16 p17) (Iv.mk q12 q13))).lo 65536)), .n .i64 (max (-65536) (min (Iv.add (Iv.add (Iv.mul (Iv.mk p12 p13) (Iv.mk q0 q1)) (Iv.mul (Iv.mk p14 p15) (Iv.mk q6 q7))) (Iv.mul (Iv.mk p16 p17) (Iv.mk q12 q13))).hi 65536)), .n .i64 (max (-65536) (min (Iv.add (Iv.add (Iv.mul (Iv.mk p12 p13) (Iv.mk q2 q3)) (Iv.mul (Iv.mk p14 p15) (Iv.mk q8 q9))) (Iv.mul (Iv.mk p16 p17) (Iv.mk q14 q15))).lo 65536)), .n .i64 (max (-65536) (min (Iv.add (Iv.add (Iv.mul (Iv.mk p12 p13) (Iv.mk q2 q3)) (Iv.mul (Iv.mk p14 p15) (Iv.mk q8 q9))) (Iv.mul (Iv.mk p16 p17) (Iv.mk q14 q15))).hi 65536)), .n .i64 (max (-65536) (min (Iv.add (Iv.add (Iv.mul (Iv.mk p12 p13) (Iv.mk q4 q5)) (Iv.mul (Iv.mk p14 p15) (Iv.mk q10 q11))) (Iv.mul (Iv.mk p16 p17) (Iv.mk q16 q17))).lo 65536)), .n .i64 (max (-65536) (min (Iv.add (Iv.add (Iv.mul (Iv.mk p12 p13) (Iv.mk q4 q5)) (Iv.mul (Iv.mk p14 p15) (Iv.mk q10 q11))) (Iv.mul (Iv.mk p16 p17) (Iv.mk q16 q17))).hi 65536))]), [])).trans (by simp only [lim_ref]; rfl))) rfl rfl w
set_option maxRecDepth 100000 in
theorem mApply (p0 p1 p2 p3 p4 p5 p6 p7 p8 p9 p10 p11 p12 p13 p14 p15 p16 p17 : Int) (q0 q1 q2 q3 q4 q5 : Int) (w : World) : Calls Tryz.prog 141 [.agg #[.int .i64 p0, .int .i64 p1, .int .i64 p2, .int .i64 p3, .int .i64 p4, .int .i64 p5, .int .i64 p6, .int .i64 p7, .int .i64 p8, .int .i64 p9, .int .i64 p10, .int .i64 p11, .int .i64 p12, .int .i64 p13, .int .i64 p14, .int .i64 p15, .int .i64 p16, .int .i64 p17], .agg #[.int .i64 q0, .int .i64 q1, .int .i64 q2, .int .i64 q3, .int .i64 q4, .int .i64 q5]].toArray w (Rets (v3 (M3.apply ((M3.mk (V3.mk (Iv.mk p0 p1) (Iv.mk p2 p3) (Iv.mk p4 p5)) (V3.mk (Iv.mk p6 p7) (Iv.mk p8 p9) (Iv.mk p10 p11)) (V3.mk (Iv.mk p12 p13) (Iv.mk p14 p15) (Iv.mk p16 p17))) : M3) ((V3.mk (Iv.mk q0 q1) (Iv.mk q2 q3) (Iv.mk q4 q5)) : V3))) w) :=
 uY (x := .a (v3C (M3.apply ((M3.mk (V3.mk (Iv.mk p0 p1) (Iv.mk p2 p3) (Iv.mk p4 p5)) (V3.mk (Iv.mk p6 p7) (Iv.mk p8 p9) (Iv.mk p10 p11)) (V3.mk (Iv.mk p12 p13) (Iv.mk p14 p15) (Iv.mk p16 p17))) : M3) ((V3.mk (Iv.mk q0 q1) (Iv.mk q2 q3) (Iv.mk q4 q5)) : V3)))) (yV (N := 60) (ps := [.a [.n .i64 p0, .n .i64 p1, .n .i64 p2, .n .i64 p3, .n .i64 p4, .n .i64 p5, .n .i64 p6, .n .i64 p7, .n .i64 p8, .n .i64 p9, .n .i64 p10, .n .i64 p11, .n .i64 p12, .n .i64 p13, .n .i64 p14, .n .i64 p15, .n .i64 p16, .n .i64 p17], .a [.n .i64 q0, .n .i64 q1, .n .i64 q2, .n .i64 q3, .n .i64 q4, .n .i64 q5]]) tabOk mixed (OrL.ok (l := L4) zYK) ((by kernel_rfl : _ = some (.v (.a [.n .i64 (Iv.add (Iv.add (Iv.add (Iv.mk 0 0) (Iv.mul (Iv.mk p0 p1) (Iv.mk q0 q1))) (Iv.mul (Iv.mk p2 p3) (Iv.mk q2 q3))) (Iv.mul (Iv.mk p4 p5) (Iv.mk q4 q5))).lo, .n .i64 (Iv.add (Iv.add (Iv.add (Iv.mk 0 0) (Iv.mul (Iv.mk p0 p1) (Iv.mk q0 q1))) (Iv.mul (Iv.mk p2 p3) (Iv.mk q2 q3))) (Iv.mul (Iv.mk p4 p5) (Iv.mk q4 q5))).hi, .n .i64 (Iv.add (Iv.add (Iv.add (Iv.mk 0 0) (Iv.mul (Iv.mk p6 p7) (Iv.mk q0 q1))) (Iv.mul (Iv.mk p8 p9) (Iv.mk q2 q3))) (Iv.mul (Iv.mk p10 p11) (Iv.mk q4 q5))).lo, .n .i64 (Iv.add (Iv.add (Iv.add (Iv.mk 0 0) (Iv.mul (Iv.mk p6 p7) (Iv.mk q0 q1))) (Iv.mul (Iv.mk p8 p9) (Iv.mk q2 q3))) (Iv.mul (Iv.mk p10 p11) (Iv.mk q4 q5))).hi, .n .i64 (Iv.add (Iv.add (Iv.add (Iv.mk 0 0) (Iv.mul (Iv.mk p12 p13) (Iv.mk q0 q1))) (Iv.mul (Iv.mk p14 p15) (Iv.mk q2 q3))) (Iv.mul (Iv.mk p16 p17) (Iv.mk q4 q5))).lo, .n .i64 (Iv.add (Iv.add (Iv.add (Iv.mk 0 0) (Iv.mul (Iv.mk p12 p13) (Iv.mk q0 q1))) (Iv.mul (Iv.mk p14 p15) (Iv.mk q2 q3))) (Iv.mul (Iv.mk p16 p17) (Iv.mk q4 q5))).hi]), [])).trans (by simp only [add_zero_mul]; rfl))) rfl rfl w
set_option maxRecDepth 100000 in
theorem rApply (p0 p1 p2 p3 p4 p5 p6 p7 p8 p9 p10 p11 p12 p13 p14 p15 p16 p17 : Int) (q0 q1 q2 q3 q4 q5 : Int) (w : World) : Calls Tryz.prog 63 [.agg #[.int .i64 p0, .int .i64 p1, .int .i64 p2, .int .i64 p3, .int .i64 p4, .int .i64 p5, .int .i64 p6, .int .i64 p7, .int .i64 p8, .int .i64 p9, .int .i64 p10, .int .i64 p11, .int .i64 p12, .int .i64 p13, .int .i64 p14, .int .i64 p15, .int .i64 p16, .int .i64 p17], .agg #[.int .i64 q0, .int .i64 q1, .int .i64 q2, .int .i64 q3, .int .i64 q4, .int .i64 q5]].toArray w (Rets (v3 (M3.apply ((M3.mk (V3.mk (Iv.mk p0 p1) (Iv.mk p2 p3) (Iv.mk p4 p5)) (V3.mk (Iv.mk p6 p7) (Iv.mk p8 p9) (Iv.mk p10 p11)) (V3.mk (Iv.mk p12 p13) (Iv.mk p14 p15) (Iv.mk p16 p17))) : M3) ((V3.mk (Iv.mk q0 q1) (Iv.mk q2 q3) (Iv.mk q4 q5)) : V3))) w) :=
 uY (x := .a (v3C (M3.apply ((M3.mk (V3.mk (Iv.mk p0 p1) (Iv.mk p2 p3) (Iv.mk p4 p5)) (V3.mk (Iv.mk p6 p7) (Iv.mk p8 p9) (Iv.mk p10 p11)) (V3.mk (Iv.mk p12 p13) (Iv.mk p14 p15) (Iv.mk p16 p17))) : M3) ((V3.mk (Iv.mk q0 q1) (Iv.mk q2 q3) (Iv.mk q4 q5)) : V3)))) (yV (N := 60) (ps := [.a [.n .i64 p0, .n .i64 p1, .n .i64 p2, .n .i64 p3, .n .i64 p4, .n .i64 p5, .n .i64 p6, .n .i64 p7, .n .i64 p8, .n .i64 p9, .n .i64 p10, .n .i64 p11, .n .i64 p12, .n .i64 p13, .n .i64 p14, .n .i64 p15, .n .i64 p16, .n .i64 p17], .a [.n .i64 q0, .n .i64 q1, .n .i64 q2, .n .i64 q3, .n .i64 q4, .n .i64 q5]]) tabOk mixed (OrL.ok (l := L4) zYK) ((by kernel_rfl : _ = some (.v (.a [.n .i64 (Iv.add (Iv.add (Iv.mul (Iv.mk p0 p1) (Iv.mk q0 q1)) (Iv.mul (Iv.mk p2 p3) (Iv.mk q2 q3))) (Iv.mul (Iv.mk p4 p5) (Iv.mk q4 q5))).lo, .n .i64 (Iv.add (Iv.add (Iv.mul (Iv.mk p0 p1) (Iv.mk q0 q1)) (Iv.mul (Iv.mk p2 p3) (Iv.mk q2 q3))) (Iv.mul (Iv.mk p4 p5) (Iv.mk q4 q5))).hi, .n .i64 (Iv.add (Iv.add (Iv.mul (Iv.mk p6 p7) (Iv.mk q0 q1)) (Iv.mul (Iv.mk p8 p9) (Iv.mk q2 q3))) (Iv.mul (Iv.mk p10 p11) (Iv.mk q4 q5))).lo, .n .i64 (Iv.add (Iv.add (Iv.mul (Iv.mk p6 p7) (Iv.mk q0 q1)) (Iv.mul (Iv.mk p8 p9) (Iv.mk q2 q3))) (Iv.mul (Iv.mk p10 p11) (Iv.mk q4 q5))).hi, .n .i64 (Iv.add (Iv.add (Iv.mul (Iv.mk p12 p13) (Iv.mk q0 q1)) (Iv.mul (Iv.mk p14 p15) (Iv.mk q2 q3))) (Iv.mul (Iv.mk p16 p17) (Iv.mk q4 q5))).lo, .n .i64 (Iv.add (Iv.add (Iv.mul (Iv.mk p12 p13) (Iv.mk q0 q1)) (Iv.mul (Iv.mk p14 p15) (Iv.mk q2 q3))) (Iv.mul (Iv.mk p16 p17) (Iv.mk q4 q5))).hi]), [])).trans (by rfl))) rfl rfl w
end Go.Proofs.YtmbnpjpggccefaaGreat
namespace Go.Proofs.YtmbnpjpggccefaaGreat
open Go.Sx
theorem la39 : qZW Tryz.prog 39 = some ([.int .i64 0, .int .i64 0, .int .i64 0], [(0, 1), (1, 1), (2, 1)]) := by kernel_rfl
theorem en59 : yG Tryz.prog 59 := zZ Tryz.func59 (by kernel_rfl) (by kernel_rfl)
theorem ze77 : qZY Tryz.prog 77 (.agg #[.int .i64 0, .int .i64 0, .int .i64 0, .int .i64 0, .int .i64 0, .int .i64 0, .int .i64 0, .int .i64 0, .int .i64 0, .int .i64 0, .int .i64 0, .int .i64 0, .int .i64 0, .int .i64 0, .int .i64 0, .int .i64 0, .int .i64 0, .int .i64 0, .int .i64 0, .int .i64 0, .int .i64 0, .int .i64 0, .int .i64 0, .int .i64 0]) := by unfold qZY; kernel_rfl
theorem en98 : yG Tryz.prog 98 := zZ Tryz.func98 (by kernel_rfl) (by kernel_rfl)
theorem la77 : qZW Tryz.prog 77 = some ([.int .i64 0, .int .i64 0, .int .i64 0, .int .i64 0, .int .i64 0, .int .i64 0, .int .i64 0, .int .i64 0, .int .i64 0, .int .i64 0, .int .i64 0, .int .i64 0, .int .i64 0, .int .i64 0, .int .i64 0, .int .i64 0, .int .i64 0, .int .i64 0, .int .i64 0, .int .i64 0, .int .i64 0, .int .i64 0, .int .i64 0, .int .i64 0], [(0, 18), (18, 6)]) := by kernel_rfl
theorem ty77 : tyB Tryz.prog 77 true 24 = true := by kernel_rfl
theorem en118 : yG Tryz.prog 118 := zZ Tryz.func118 (by kernel_rfl) (by kernel_rfl)
theorem en114 : yG Tryz.prog 114 := zZ Tryz.func114 (by kernel_rfl) (by kernel_rfl)
theorem en58 : yG Tryz.prog 58 := zZ Tryz.func58 (by kernel_rfl) (by kernel_rfl)
theorem en162 : yG Tryz.prog 162 := zZ Tryz.func162 (by kernel_rfl) (by kernel_rfl)
theorem en152 : yG Tryz.prog 152 := zZ Tryz.func152 (by kernel_rfl) (by kernel_rfl)
theorem fa77_1 : qUK Tryz.prog 77 1 18 = true := by kernel_rfl
theorem fa77_0 : qUK Tryz.prog 77 0 0 = true := by kernel_rfl
theorem en141 : yG Tryz.prog 141 := zZ Tryz.func141 (by kernel_rfl) (by kernel_rfl)
theorem en140 : yG Tryz.prog 140 := zZ Tryz.func140 (by kernel_rfl) (by kernel_rfl)
theorem en96 : yG Tryz.prog 96 := zZ Tryz.func96 (by kernel_rfl) (by kernel_rfl)
theorem en97 : yG Tryz.prog 97 := zZ Tryz.func97 (by kernel_rfl) (by kernel_rfl)
theorem en139 : yG Tryz.prog 139 := zZ Tryz.func139 (by kernel_rfl) (by kernel_rfl)
theorem en111 : yG Tryz.prog 111 := zZ Tryz.func111 (by kernel_rfl) (by kernel_rfl)
theorem en63 : yG Tryz.prog 63 := zZ Tryz.func63 (by kernel_rfl) (by kernel_rfl)
theorem en62 : yG Tryz.prog 62 := zZ Tryz.func62 (by kernel_rfl) (by kernel_rfl)
theorem pStill  (w : World) : Calls Tryz.prog 114 [].toArray w (Rets (v3 (V3.zero)) (w)) := by
 refine zK (n := 3) Tryz.func114 rfl rfl rfl ?_
 refine qK ?_
 refine qZ ?_
 refine yK 0 ze75 rfl rfl rfl ?_; intro b0
 refine qJ ?_
 refine qQ ?_
 refine qK ?_
 refine qZ ?_
 refine qY (zU la39 rfl rfl) rfl rfl rfl ?_
 refine jG (F := v3) (zY en59 rfl (fun w _ => mPoint _ _ _  w)) rfl rfl rfl ?_; intro r2 hr2
 refine qG 0 ty75 rfl rfl rfl rfl rfl rfl rfl rfl ?_
 refine qJ ?_
 refine qQ ?_
 refine zV ?_
 refine zQ (rs := [.cell 0 75]) rfl (resC (zJ 0 rfl rfl ty75 rfl) (resN)) (congrArg (v3) (?_ : ⟨⟨_, _⟩, ⟨_, _⟩, ⟨_, _⟩⟩ = V3.zero))
 subst_vars; rfl
theorem pShift (va0 va1 va2 va3 va4 va5 : Int) (w : World) : Calls Tryz.prog 58 [.agg #[.int .i64 va0, .int .i64 va1, .int .i64 va2, .int .i64 va3, .int .i64 va4, .int .i64 va5]].toArray w (Rets (po (Po.shift (⟨⟨va0, va1⟩, ⟨va2, va3⟩, ⟨va4, va5⟩⟩ : V3))) (w)) := by
 refine zK (n := 6) Tryz.func58 rfl rfl rfl ?_
 refine qK ?_
 refine qZ ?_
 refine jJ 1 rfl rfl rfl rfl ?_; intro b1
 refine yK 2 ze77 rfl rfl rfl ?_; intro b2
 refine qJ ?_
 refine qQ ?_
 refine qK ?_
 refine jV 3 mo (by kernel_rfl) ?_
 simp only [List.take_succ_cons, List.take_zero, List.drop_succ_cons, List.drop_zero]
 refine kK (F := m3) (zY en98 rfl (fun w _ => mIdentity   w)) rfl rfl rfl ?_; intro r3 hr3
 refine zH (qV 1 ty75 rfl rfl rfl) rfl rfl rfl ?_
 refine zH (zU la77 rfl rfl) rfl rfl rfl ?_
 refine uU ?_
 refine kJ ?_
 refine qG 2 ty77 rfl rfl rfl rfl rfl rfl rfl rfl ?_
 refine qJ ?_
 refine qQ ?_
 refine zV ?_
 refine zQ (rs := [.cell 2 77]) rfl (resC (zJ 2 rfl rfl ty77 rfl) (resN)) (congrArg (po) (?_ : ⟨⟨⟨⟨_, _⟩, ⟨_, _⟩, ⟨_, _⟩⟩, ⟨⟨_, _⟩, ⟨_, _⟩, ⟨_, _⟩⟩, ⟨⟨_, _⟩, ⟨_, _⟩, ⟨_, _⟩⟩⟩, ⟨⟨_, _⟩, ⟨_, _⟩, ⟨_, _⟩⟩⟩ = Po.shift (⟨⟨va0, va1⟩, ⟨va2, va3⟩, ⟨va4, va5⟩⟩ : V3)))
 subst_vars; rfl
theorem zQX (va0 va1 va2 va3 va4 va5 : Int) (w : World) : Calls Tryz.prog 110 [.agg #[.int .i64 va0, .int .i64 va1, .int .i64 va2, .int .i64 va3, .int .i64 va4, .int .i64 va5]].toArray w (Rets (po (Po.shift (⟨⟨va0, va1⟩, ⟨va2, va3⟩, ⟨va4, va5⟩⟩ : V3))) (w)) := by
 refine zK (n := 6) Tryz.func110 rfl rfl rfl ?_
 refine qK ?_
 refine qZ ?_
 refine jJ 1 rfl rfl rfl rfl ?_; intro b1
 refine yK 2 ze77 rfl rfl rfl ?_; intro b2
 refine qJ ?_
 refine qQ ?_
 refine qK ?_
 refine jV 3 mo (by kernel_rfl) ?_
 simp only [List.take_succ_cons, List.take_zero, List.drop_succ_cons, List.drop_zero]
 refine kK (F := m3) (zY en118 rfl (fun w _ => rUnit   w)) rfl rfl rfl ?_; intro r3 hr3
 refine zH (qV 1 ty75 rfl rfl rfl) rfl rfl rfl ?_
 refine zH (zU la77 rfl rfl) rfl rfl rfl ?_
 refine uU ?_
 refine kJ ?_
 refine qG 2 ty77 rfl rfl rfl rfl rfl rfl rfl rfl ?_
 refine qJ ?_
 refine qQ ?_
 refine zV ?_
 refine zQ (rs := [.cell 2 77]) rfl (resC (zJ 2 rfl rfl ty77 rfl) (resN)) (congrArg (po) (?_ : ⟨⟨⟨⟨_, _⟩, ⟨_, _⟩, ⟨_, _⟩⟩, ⟨⟨_, _⟩, ⟨_, _⟩, ⟨_, _⟩⟩, ⟨⟨_, _⟩, ⟨_, _⟩, ⟨_, _⟩⟩⟩, ⟨⟨_, _⟩, ⟨_, _⟩, ⟨_, _⟩⟩⟩ = Po.shift (⟨⟨va0, va1⟩, ⟨va2, va3⟩, ⟨va4, va5⟩⟩ : V3)))
 subst_vars; rfl
theorem pIdentity  (w : World) : Calls Tryz.prog 71 [].toArray w (Rets (po (Po.rest)) (w)) := by
 refine zK (n := 3) Tryz.func71 rfl rfl rfl ?_
 refine qK ?_
 refine qZ ?_
 refine yK 0 ze77 rfl rfl rfl ?_; intro b0
 refine qJ ?_
 refine qQ ?_
 refine qK ?_
 refine qZ ?_
 refine jG (F := v3) (zY en114 rfl (fun w _ => pStill   w)) rfl rfl rfl ?_; intro r1 hr1
 refine jG (F := po) (zY en58 rfl (fun w _ => pShift _ _ _ _ _ _  w)) rfl rfl rfl ?_; intro r2 hr2
 refine qG 0 ty77 rfl rfl rfl rfl rfl rfl rfl rfl ?_
 refine qJ ?_
 refine qQ ?_
 refine zV ?_
 refine zQ (rs := [.cell 0 77]) rfl (resC (zJ 0 rfl rfl ty77 rfl) (resN)) (congrArg (po) (?_ : ⟨⟨⟨⟨_, _⟩, ⟨_, _⟩, ⟨_, _⟩⟩, ⟨⟨_, _⟩, ⟨_, _⟩, ⟨_, _⟩⟩, ⟨⟨_, _⟩, ⟨_, _⟩, ⟨_, _⟩⟩⟩, ⟨⟨_, _⟩, ⟨_, _⟩, ⟨_, _⟩⟩⟩ = Po.rest))
 subst_vars; rfl
theorem qRest  (w : World) : Calls Tryz.prog 74 [].toArray w (Rets (po (Po.rest)) (w)) := by
 refine zK (n := 3) Tryz.func74 rfl rfl rfl ?_
 refine qK ?_
 refine qZ ?_
 refine yK 0 ze77 rfl rfl rfl ?_; intro b0
 refine qJ ?_
 refine qQ ?_
 refine qK ?_
 refine qZ ?_
 refine jG (F := m3) (zY en118 rfl (fun w _ => rUnit   w)) rfl rfl rfl ?_; intro r1 hr1
 refine qY (zU la77 rfl rfl) rfl rfl rfl ?_
 refine qG 0 ty77 rfl rfl rfl rfl rfl rfl rfl rfl ?_
 refine qJ ?_
 refine qQ ?_
 refine zV ?_
 refine zQ (rs := [.cell 0 77]) rfl (resC (zJ 0 rfl rfl ty77 rfl) (resN)) (congrArg (po) (?_ : ⟨⟨⟨⟨_, _⟩, ⟨_, _⟩, ⟨_, _⟩⟩, ⟨⟨_, _⟩, ⟨_, _⟩, ⟨_, _⟩⟩, ⟨⟨_, _⟩, ⟨_, _⟩, ⟨_, _⟩⟩⟩, ⟨⟨_, _⟩, ⟨_, _⟩, ⟨_, _⟩⟩⟩ = Po.rest))
 subst_vars; rfl
theorem pTurn (axis : Int) (a0 a1 : Int) (w : World) : Calls Tryz.prog 146 [.int .i64 axis, .agg #[.int .i64 a0, .int .i64 a1]].toArray w (Rets (po (Po.turn axis (⟨a0, a1⟩ : Iv))) (w)) := by
 refine zK (n := 10) Tryz.func146 rfl rfl rfl ?_
 refine qK ?_
 refine qZ ?_
 refine jJ 3 rfl rfl rfl rfl ?_; intro b3
 refine yK 4 ze77 rfl rfl rfl ?_; intro b4
 refine qJ ?_
 refine qQ ?_
 refine qK ?_
 refine qZ ?_
 refine qY (qU rfl) rfl rfl rfl ?_
 refine qY (qV 3 ty71 rfl rfl rfl) rfl rfl rfl ?_
 refine jG (F := m3) (zY en162 rfl (fun w _ => mTurn _ _ _  w)) rfl rfl rfl ?_; intro r7 hr7
 refine jG (F := v3) (zY en114 rfl (fun w _ => pStill   w)) rfl rfl rfl ?_; intro r8 hr8
 refine qY (zU la77 rfl rfl) rfl rfl rfl ?_
 refine qG 4 ty77 rfl rfl rfl rfl rfl rfl rfl rfl ?_
 refine qJ ?_
 refine qQ ?_
 refine zV ?_
 refine zQ (rs := [.cell 4 77]) rfl (resC (zJ 4 rfl rfl ty77 rfl) (resN)) (congrArg (po) (?_ : ⟨⟨⟨⟨_, _⟩, ⟨_, _⟩, ⟨_, _⟩⟩, ⟨⟨_, _⟩, ⟨_, _⟩, ⟨_, _⟩⟩, ⟨⟨_, _⟩, ⟨_, _⟩, ⟨_, _⟩⟩⟩, ⟨⟨_, _⟩, ⟨_, _⟩, ⟨_, _⟩⟩⟩ = Po.turn axis (⟨a0, a1⟩ : Iv)))
 subst_vars; rfl
theorem qTurn (axis : Int) (a0 a1 : Int) (w : World) : Calls Tryz.prog 109 [.int .i64 axis, .agg #[.int .i64 a0, .int .i64 a1]].toArray w (Rets (po (Po.turn axis (⟨a0, a1⟩ : Iv))) (w)) := by
 refine zK (n := 9) Tryz.func109 rfl rfl rfl ?_
 refine qK ?_
 refine qZ ?_
 refine jJ 3 rfl rfl rfl rfl ?_; intro b3
 refine yK 4 ze77 rfl rfl rfl ?_; intro b4
 refine qJ ?_
 refine qQ ?_
 refine qK ?_
 refine qZ ?_
 refine qY (qU rfl) rfl rfl rfl ?_
 refine qY (qV 3 ty71 rfl rfl rfl) rfl rfl rfl ?_
 refine jG (F := m3) (zY en152 rfl (fun w _ => rTurn _ _ _  w)) rfl rfl rfl ?_; intro r7 hr7
 refine qY (zU la77 rfl rfl) rfl rfl rfl ?_
 refine qG 4 ty77 rfl rfl rfl rfl rfl rfl rfl rfl ?_
 refine qJ ?_
 refine qQ ?_
 refine zV ?_
 refine zQ (rs := [.cell 4 77]) rfl (resC (zJ 4 rfl rfl ty77 rfl) (resN)) (congrArg (po) (?_ : ⟨⟨⟨⟨_, _⟩, ⟨_, _⟩, ⟨_, _⟩⟩, ⟨⟨_, _⟩, ⟨_, _⟩, ⟨_, _⟩⟩, ⟨⟨_, _⟩, ⟨_, _⟩, ⟨_, _⟩⟩⟩, ⟨⟨_, _⟩, ⟨_, _⟩, ⟨_, _⟩⟩⟩ = Po.turn axis (⟨a0, a1⟩ : Iv)))
 subst_vars; rfl
theorem pMover (pa0 pa1 pa2 pa3 pa4 pa5 pa6 pa7 pa8 pa9 pa10 pa11 pa12 pa13 pa14 pa15 pa16 pa17 pa18 pa19 pa20 pa21 pa22 pa23 : Int) (w : World) : Calls Tryz.prog 96 [.agg #[.int .i64 pa0, .int .i64 pa1, .int .i64 pa2, .int .i64 pa3, .int .i64 pa4, .int .i64 pa5, .int .i64 pa6, .int .i64 pa7, .int .i64 pa8, .int .i64 pa9, .int .i64 pa10, .int .i64 pa11, .int .i64 pa12, .int .i64 pa13, .int .i64 pa14, .int .i64 pa15, .int .i64 pa16, .int .i64 pa17, .int .i64 pa18, .int .i64 pa19, .int .i64 pa20, .int .i64 pa21, .int .i64 pa22, .int .i64 pa23]].toArray w (RetsT (NewF w (fun b => .func (.func 139) #[] #[.pointer (some ⟨b, 0, none⟩)]) [.int .i64 pa0, .int .i64 pa1, .int .i64 pa2, .int .i64 pa3, .int .i64 pa4, .int .i64 pa5, .int .i64 pa6, .int .i64 pa7, .int .i64 pa8, .int .i64 pa9, .int .i64 pa10, .int .i64 pa11, .int .i64 pa12, .int .i64 pa13, .int .i64 pa14, .int .i64 pa15, .int .i64 pa16, .int .i64 pa17, .int .i64 pa18, .int .i64 pa19, .int .i64 pa20, .int .i64 pa21, .int .i64 pa22, .int .i64 pa23] 77) w) := by
 refine zK (n := 4) Tryz.func96 rfl rfl rfl ?_
 refine qK ?_
 refine qZ ?_
 refine jJ 1 rfl rfl rfl rfl ?_; intro b1
 refine qY (qW rfl) rfl rfl rfl ?_
 refine qJ ?_
 refine qQ ?_
 refine qK ?_
 refine qZ ?_
 refine qY (qYW rfl rfl) rfl rfl rfl ?_
 refine qY (qW rfl) rfl rfl rfl ?_
 refine qJ ?_
 refine qQ ?_
 refine zV ?_
 refine qJQ (rs := [.tmp 2]) rfl (resC (yH rfl) (resN)) rfl ?_
 intro w2 k
 exact ⟨_, rfl, k.grow, _, rfl, (k.at (i := 1) rfl).1, (k.at (i := 1) rfl).2⟩
theorem pMove (va0 va1 va2 va3 va4 va5 : Int) (b : Nat) (pa0 pa1 pa2 pa3 pa4 pa5 pa6 pa7 pa8 pa9 pa10 pa11 pa12 pa13 pa14 pa15 pa16 pa17 pa18 pa19 pa20 pa21 pa22 pa23 : Int) (w : World) (hb : w.heap[b]? = some (.cells [.int .i64 pa0, .int .i64 pa1, .int .i64 pa2, .int .i64 pa3, .int .i64 pa4, .int .i64 pa5, .int .i64 pa6, .int .i64 pa7, .int .i64 pa8, .int .i64 pa9, .int .i64 pa10, .int .i64 pa11, .int .i64 pa12, .int .i64 pa13, .int .i64 pa14, .int .i64 pa15, .int .i64 pa16, .int .i64 pa17, .int .i64 pa18, .int .i64 pa19, .int .i64 pa20, .int .i64 pa21, .int .i64 pa22, .int .i64 pa23].toArray 77)) : Calls Tryz.prog 139 [.agg #[.int .i64 va0, .int .i64 va1, .int .i64 va2, .int .i64 va3, .int .i64 va4, .int .i64 va5], .pointer (some ⟨b, 0, none⟩)].toArray w (Rets (v3 (V3.add (Po.t ⟨⟨⟨⟨pa0, pa1⟩, ⟨pa2, pa3⟩, ⟨pa4, pa5⟩⟩, ⟨⟨pa6, pa7⟩, ⟨pa8, pa9⟩, ⟨pa10, pa11⟩⟩, ⟨⟨pa12, pa13⟩, ⟨pa14, pa15⟩, ⟨pa16, pa17⟩⟩⟩, ⟨⟨pa18, pa19⟩, ⟨pa20, pa21⟩, ⟨pa22, pa23⟩⟩⟩) (M3.apply (Po.r ⟨⟨⟨⟨pa0, pa1⟩, ⟨pa2, pa3⟩, ⟨pa4, pa5⟩⟩, ⟨⟨pa6, pa7⟩, ⟨pa8, pa9⟩, ⟨pa10, pa11⟩⟩, ⟨⟨pa12, pa13⟩, ⟨pa14, pa15⟩, ⟨pa16, pa17⟩⟩⟩, ⟨⟨pa18, pa19⟩, ⟨pa20, pa21⟩, ⟨pa22, pa23⟩⟩⟩) (⟨⟨va0, va1⟩, ⟨va2, va3⟩, ⟨va4, va5⟩⟩ : V3)))) (w)) := by
 refine zK (n := 11) Tryz.func139 rfl rfl rfl ?_
 refine qK ?_
 refine qZ ?_
 refine jJ 2 rfl rfl rfl rfl ?_; intro b2
 refine yK 3 ze75 rfl rfl rfl ?_; intro b3
 refine qJ ?_
 refine qQ ?_
 refine qK ?_
 refine jV 7 mo (by kernel_rfl) ?_
 simp only [List.take_succ_cons, List.take_zero, List.drop_succ_cons, List.drop_zero]
 refine zH (qX fa77_1 rfl) rfl rfl rfl ?_
 refine zH (opV_loadA_blk hb ty75 rfl rfl) rfl rfl rfl ?_
 refine zH (qX fa77_0 rfl) rfl rfl rfl ?_
 refine zH (opV_loadA_blk hb ty74 rfl rfl) rfl rfl rfl ?_
 refine zH (qV 2 ty75 rfl rfl rfl) rfl rfl rfl ?_
 refine kK (F := v3) (zY en141 rfl (fun w _ => mApply _ _ _ _ _ _ _ _ _ _ _ _ _ _ _ _ _ _ _ _ _ _ _ _  w)) rfl rfl rfl ?_; intro r9 hr9
 refine kK (F := v3) (zY en140 rfl (fun w _ => mAdd _ _ _ _ _ _ _ _ _ _ _ _  w)) rfl rfl rfl ?_; intro r10 hr10
 refine uU ?_
 refine kJ ?_
 refine qG 3 ty75 rfl rfl rfl rfl rfl rfl rfl rfl ?_
 refine qJ ?_
 refine qQ ?_
 refine zV ?_
 refine zQ (rs := [.cell 3 75]) rfl (resC (zJ 3 rfl rfl ty75 rfl) (resN)) (congrArg (v3) (?_ : ⟨⟨_, _⟩, ⟨_, _⟩, ⟨_, _⟩⟩ = V3.add (Po.t ⟨⟨⟨⟨pa0, pa1⟩, ⟨pa2, pa3⟩, ⟨pa4, pa5⟩⟩, ⟨⟨pa6, pa7⟩, ⟨pa8, pa9⟩, ⟨pa10, pa11⟩⟩, ⟨⟨pa12, pa13⟩, ⟨pa14, pa15⟩, ⟨pa16, pa17⟩⟩⟩, ⟨⟨pa18, pa19⟩, ⟨pa20, pa21⟩, ⟨pa22, pa23⟩⟩⟩) (M3.apply (Po.r ⟨⟨⟨⟨pa0, pa1⟩, ⟨pa2, pa3⟩, ⟨pa4, pa5⟩⟩, ⟨⟨pa6, pa7⟩, ⟨pa8, pa9⟩, ⟨pa10, pa11⟩⟩, ⟨⟨pa12, pa13⟩, ⟨pa14, pa15⟩, ⟨pa16, pa17⟩⟩⟩, ⟨⟨pa18, pa19⟩, ⟨pa20, pa21⟩, ⟨pa22, pa23⟩⟩⟩) (⟨⟨va0, va1⟩, ⟨va2, va3⟩, ⟨va4, va5⟩⟩ : V3))))
 subst_vars; rfl
theorem pCompose (pa0 pa1 pa2 pa3 pa4 pa5 pa6 pa7 pa8 pa9 pa10 pa11 pa12 pa13 pa14 pa15 pa16 pa17 pa18 pa19 pa20 pa21 pa22 pa23 : Int) (qa0 qa1 qa2 qa3 qa4 qa5 qa6 qa7 qa8 qa9 qa10 qa11 qa12 qa13 qa14 qa15 qa16 qa17 qa18 qa19 qa20 qa21 qa22 qa23 : Int) (w : World) : Calls Tryz.prog 57 [.agg #[.int .i64 pa0, .int .i64 pa1, .int .i64 pa2, .int .i64 pa3, .int .i64 pa4, .int .i64 pa5, .int .i64 pa6, .int .i64 pa7, .int .i64 pa8, .int .i64 pa9, .int .i64 pa10, .int .i64 pa11, .int .i64 pa12, .int .i64 pa13, .int .i64 pa14, .int .i64 pa15, .int .i64 pa16, .int .i64 pa17, .int .i64 pa18, .int .i64 pa19, .int .i64 pa20, .int .i64 pa21, .int .i64 pa22, .int .i64 pa23], .agg #[.int .i64 qa0, .int .i64 qa1, .int .i64 qa2, .int .i64 qa3, .int .i64 qa4, .int .i64 qa5, .int .i64 qa6, .int .i64 qa7, .int .i64 qa8, .int .i64 qa9, .int .i64 qa10, .int .i64 qa11, .int .i64 qa12, .int .i64 qa13, .int .i64 qa14, .int .i64 qa15, .int .i64 qa16, .int .i64 qa17, .int .i64 qa18, .int .i64 qa19, .int .i64 qa20, .int .i64 qa21, .int .i64 qa22, .int .i64 qa23]].toArray w (Rets (po (Po.mul (⟨⟨⟨⟨pa0, pa1⟩, ⟨pa2, pa3⟩, ⟨pa4, pa5⟩⟩, ⟨⟨pa6, pa7⟩, ⟨pa8, pa9⟩, ⟨pa10, pa11⟩⟩, ⟨⟨pa12, pa13⟩, ⟨pa14, pa15⟩, ⟨pa16, pa17⟩⟩⟩, ⟨⟨pa18, pa19⟩, ⟨pa20, pa21⟩, ⟨pa22, pa23⟩⟩⟩ : Po) (⟨⟨⟨⟨qa0, qa1⟩, ⟨qa2, qa3⟩, ⟨qa4, qa5⟩⟩, ⟨⟨qa6, qa7⟩, ⟨qa8, qa9⟩, ⟨qa10, qa11⟩⟩, ⟨⟨qa12, qa13⟩, ⟨qa14, qa15⟩, ⟨qa16, qa17⟩⟩⟩, ⟨⟨qa18, qa19⟩, ⟨qa20, qa21⟩, ⟨qa22, qa23⟩⟩⟩ : Po))) (w)) := by
 refine zK (n := 18) Tryz.func57 rfl rfl rfl ?_
 refine qK ?_
 refine qZ ?_
 refine jJ 2 rfl rfl rfl rfl ?_; intro b2
 refine jJ 3 rfl rfl rfl rfl ?_; intro b3
 refine yK 4 ze77 rfl rfl rfl ?_; intro b4
 refine qJ ?_
 refine qQ ?_
 refine qK ?_
 refine qZ ?_
 refine qY (qV 2 ty77 rfl rfl rfl) rfl rfl rfl ?_
 refine doL_callNewF 7 en96 rfl (fun w' _ => pMover _ _ _ _ _ _ _ _ _ _ _ _ _ _ _ _ _ _ _ _ _ _ _ _ w') rfl rfl ?_; intro b7
 refine qY (qW rfl) rfl rfl rfl ?_
 refine qJ ?_
 refine qQ ?_
 refine qK ?_
 refine jV 10 mo (by kernel_rfl) ?_
 simp only [List.take_succ_cons, List.take_zero, List.drop_succ_cons, List.drop_zero]
 refine zH (qX fa77_0 rfl) rfl rfl rfl ?_
 refine zH (qV 2 ty74 rfl rfl rfl) rfl rfl rfl ?_
 refine zH (qX fa77_0 rfl) rfl rfl rfl ?_
 refine zH (qV 3 ty74 rfl rfl rfl) rfl rfl rfl ?_
 refine kK (F := m3) (zY en97 rfl (fun w _ => mCompose _ _ _ _ _ _ _ _ _ _ _ _ _ _ _ _ _ _ _ _ _ _ _ _ _ _ _ _ _ _ _ _ _ _ _ _  w)) rfl rfl rfl ?_; intro r12 hr12
 refine zH (qU rfl) rfl rfl rfl ?_
 refine zH (qX fa77_1 rfl) rfl rfl rfl ?_
 refine zH (qV 3 ty75 rfl rfl rfl) rfl rfl rfl ?_
 refine kK (F := v3) (opV_callV en139 rfl rfl rfl (fun w k => pMove _ _ _ _ _ _ _ _ _ _ _ _ _ _ _ _ _ _ _ _ _ _ _ _ _ _ _ _ _ _ _ w (k.at (i := 7) rfl).2)) rfl rfl rfl ?_; intro r16 hr16
 refine zH (zU la77 rfl rfl) rfl rfl rfl ?_
 refine uU ?_
 refine kJ ?_
 refine qG 4 ty77 rfl rfl rfl rfl rfl rfl rfl rfl ?_
 refine qJ ?_
 refine qQ ?_
 refine zV ?_
 refine zQ (rs := [.cell 4 77]) rfl (resC (zJ 4 rfl rfl ty77 rfl) (resN)) (congrArg (po) (?_ : ⟨⟨⟨⟨_, _⟩, ⟨_, _⟩, ⟨_, _⟩⟩, ⟨⟨_, _⟩, ⟨_, _⟩, ⟨_, _⟩⟩, ⟨⟨_, _⟩, ⟨_, _⟩, ⟨_, _⟩⟩⟩, ⟨⟨_, _⟩, ⟨_, _⟩, ⟨_, _⟩⟩⟩ = Po.mul (⟨⟨⟨⟨pa0, pa1⟩, ⟨pa2, pa3⟩, ⟨pa4, pa5⟩⟩, ⟨⟨pa6, pa7⟩, ⟨pa8, pa9⟩, ⟨pa10, pa11⟩⟩, ⟨⟨pa12, pa13⟩, ⟨pa14, pa15⟩, ⟨pa16, pa17⟩⟩⟩, ⟨⟨pa18, pa19⟩, ⟨pa20, pa21⟩, ⟨pa22, pa23⟩⟩⟩ : Po) (⟨⟨⟨⟨qa0, qa1⟩, ⟨qa2, qa3⟩, ⟨qa4, qa5⟩⟩, ⟨⟨qa6, qa7⟩, ⟨qa8, qa9⟩, ⟨qa10, qa11⟩⟩, ⟨⟨qa12, qa13⟩, ⟨qa14, qa15⟩, ⟨qa16, qa17⟩⟩⟩, ⟨⟨qa18, qa19⟩, ⟨qa20, qa21⟩, ⟨qa22, qa23⟩⟩⟩ : Po)))
 subst_vars; rfl
theorem qGX (pa0 pa1 pa2 pa3 pa4 pa5 pa6 pa7 pa8 pa9 pa10 pa11 pa12 pa13 pa14 pa15 pa16 pa17 pa18 pa19 pa20 pa21 pa22 pa23 : Int) (qa0 qa1 qa2 qa3 qa4 qa5 qa6 qa7 qa8 qa9 qa10 qa11 qa12 qa13 qa14 qa15 qa16 qa17 qa18 qa19 qa20 qa21 qa22 qa23 : Int) (w : World) : Calls Tryz.prog 68 [.agg #[.int .i64 pa0, .int .i64 pa1, .int .i64 pa2, .int .i64 pa3, .int .i64 pa4, .int .i64 pa5, .int .i64 pa6, .int .i64 pa7, .int .i64 pa8, .int .i64 pa9, .int .i64 pa10, .int .i64 pa11, .int .i64 pa12, .int .i64 pa13, .int .i64 pa14, .int .i64 pa15, .int .i64 pa16, .int .i64 pa17, .int .i64 pa18, .int .i64 pa19, .int .i64 pa20, .int .i64 pa21, .int .i64 pa22, .int .i64 pa23], .agg #[.int .i64 qa0, .int .i64 qa1, .int .i64 qa2, .int .i64 qa3, .int .i64 qa4, .int .i64 qa5, .int .i64 qa6, .int .i64 qa7, .int .i64 qa8, .int .i64 qa9, .int .i64 qa10, .int .i64 qa11, .int .i64 qa12, .int .i64 qa13, .int .i64 qa14, .int .i64 qa15, .int .i64 qa16, .int .i64 qa17, .int .i64 qa18, .int .i64 qa19, .int .i64 qa20, .int .i64 qa21, .int .i64 qa22, .int .i64 qa23]].toArray w (Rets (po (Po.mul (⟨⟨⟨⟨pa0, pa1⟩, ⟨pa2, pa3⟩, ⟨pa4, pa5⟩⟩, ⟨⟨pa6, pa7⟩, ⟨pa8, pa9⟩, ⟨pa10, pa11⟩⟩, ⟨⟨pa12, pa13⟩, ⟨pa14, pa15⟩, ⟨pa16, pa17⟩⟩⟩, ⟨⟨pa18, pa19⟩, ⟨pa20, pa21⟩, ⟨pa22, pa23⟩⟩⟩ : Po) (⟨⟨⟨⟨qa0, qa1⟩, ⟨qa2, qa3⟩, ⟨qa4, qa5⟩⟩, ⟨⟨qa6, qa7⟩, ⟨qa8, qa9⟩, ⟨qa10, qa11⟩⟩, ⟨⟨qa12, qa13⟩, ⟨qa14, qa15⟩, ⟨qa16, qa17⟩⟩⟩, ⟨⟨qa18, qa19⟩, ⟨qa20, qa21⟩, ⟨qa22, qa23⟩⟩⟩ : Po))) (w)) := by
 refine zK (n := 19) Tryz.func68 rfl rfl rfl ?_
 refine qK ?_
 refine qZ ?_
 refine jJ 2 rfl rfl rfl rfl ?_; intro b2
 refine jJ 3 rfl rfl rfl rfl ?_; intro b3
 refine yK 4 ze77 rfl rfl rfl ?_; intro b4
 refine qJ ?_
 refine qQ ?_
 refine qK ?_
 refine jV 14 mo (by kernel_rfl) ?_
 simp only [List.take_succ_cons, List.take_zero, List.drop_succ_cons, List.drop_zero]
 refine zH (qX fa77_0 rfl) rfl rfl rfl ?_
 refine zH (qV 2 ty74 rfl rfl rfl) rfl rfl rfl ?_
 refine zH (qX fa77_0 rfl) rfl rfl rfl ?_
 refine zH (qV 3 ty74 rfl rfl rfl) rfl rfl rfl ?_
 refine kK (F := m3) (zY en111 rfl (fun w _ => rCompose _ _ _ _ _ _ _ _ _ _ _ _ _ _ _ _ _ _ _ _ _ _ _ _ _ _ _ _ _ _ _ _ _ _ _ _  w)) rfl rfl rfl ?_; intro r9 hr9
 refine zH (qX fa77_1 rfl) rfl rfl rfl ?_
 refine zH (qV 2 ty75 rfl rfl rfl) rfl rfl rfl ?_
 refine zH (qX fa77_0 rfl) rfl rfl rfl ?_
 refine zH (qV 2 ty74 rfl rfl rfl) rfl rfl rfl ?_
 refine zH (qX fa77_1 rfl) rfl rfl rfl ?_
 refine zH (qV 3 ty75 rfl rfl rfl) rfl rfl rfl ?_
 refine kK (F := v3) (zY en63 rfl (fun w _ => rApply _ _ _ _ _ _ _ _ _ _ _ _ _ _ _ _ _ _ _ _ _ _ _ _  w)) rfl rfl rfl ?_; intro r16 hr16
 refine kK (F := v3) (zY en62 rfl (fun w _ => rAddVec _ _ _ _ _ _ _ _ _ _ _ _  w)) rfl rfl rfl ?_; intro r17 hr17
 refine zH (zU la77 rfl rfl) rfl rfl rfl ?_
 refine uU ?_
 refine kJ ?_
 refine qG 4 ty77 rfl rfl rfl rfl rfl rfl rfl rfl ?_
 refine qJ ?_
 refine qQ ?_
 refine zV ?_
 refine zQ (rs := [.cell 4 77]) rfl (resC (zJ 4 rfl rfl ty77 rfl) (resN)) (congrArg (po) (?_ : ⟨⟨⟨⟨_, _⟩, ⟨_, _⟩, ⟨_, _⟩⟩, ⟨⟨_, _⟩, ⟨_, _⟩, ⟨_, _⟩⟩, ⟨⟨_, _⟩, ⟨_, _⟩, ⟨_, _⟩⟩⟩, ⟨⟨_, _⟩, ⟨_, _⟩, ⟨_, _⟩⟩⟩ = Po.mul (⟨⟨⟨⟨pa0, pa1⟩, ⟨pa2, pa3⟩, ⟨pa4, pa5⟩⟩, ⟨⟨pa6, pa7⟩, ⟨pa8, pa9⟩, ⟨pa10, pa11⟩⟩, ⟨⟨pa12, pa13⟩, ⟨pa14, pa15⟩, ⟨pa16, pa17⟩⟩⟩, ⟨⟨pa18, pa19⟩, ⟨pa20, pa21⟩, ⟨pa22, pa23⟩⟩⟩ : Po) (⟨⟨⟨⟨qa0, qa1⟩, ⟨qa2, qa3⟩, ⟨qa4, qa5⟩⟩, ⟨⟨qa6, qa7⟩, ⟨qa8, qa9⟩, ⟨qa10, qa11⟩⟩, ⟨⟨qa12, qa13⟩, ⟨qa14, qa15⟩, ⟨qa16, qa17⟩⟩⟩, ⟨⟨qa18, qa19⟩, ⟨qa20, qa21⟩, ⟨qa22, qa23⟩⟩⟩ : Po)))
 subst_vars; rfl
theorem pApply (pa0 pa1 pa2 pa3 pa4 pa5 pa6 pa7 pa8 pa9 pa10 pa11 pa12 pa13 pa14 pa15 pa16 pa17 pa18 pa19 pa20 pa21 pa22 pa23 : Int) (va0 va1 va2 va3 va4 va5 : Int) (w : World) : Calls Tryz.prog 116 [.agg #[.int .i64 pa0, .int .i64 pa1, .int .i64 pa2, .int .i64 pa3, .int .i64 pa4, .int .i64 pa5, .int .i64 pa6, .int .i64 pa7, .int .i64 pa8, .int .i64 pa9, .int .i64 pa10, .int .i64 pa11, .int .i64 pa12, .int .i64 pa13, .int .i64 pa14, .int .i64 pa15, .int .i64 pa16, .int .i64 pa17, .int .i64 pa18, .int .i64 pa19, .int .i64 pa20, .int .i64 pa21, .int .i64 pa22, .int .i64 pa23], .agg #[.int .i64 va0, .int .i64 va1, .int .i64 va2, .int .i64 va3, .int .i64 va4, .int .i64 va5]].toArray w (Rets (v3 (Po.app (⟨⟨⟨⟨pa0, pa1⟩, ⟨pa2, pa3⟩, ⟨pa4, pa5⟩⟩, ⟨⟨pa6, pa7⟩, ⟨pa8, pa9⟩, ⟨pa10, pa11⟩⟩, ⟨⟨pa12, pa13⟩, ⟨pa14, pa15⟩, ⟨pa16, pa17⟩⟩⟩, ⟨⟨pa18, pa19⟩, ⟨pa20, pa21⟩, ⟨pa22, pa23⟩⟩⟩ : Po) (⟨⟨va0, va1⟩, ⟨va2, va3⟩, ⟨va4, va5⟩⟩ : V3))) (w)) := by
 refine zK (n := 9) Tryz.func116 rfl rfl rfl ?_
 refine qK ?_
 refine qZ ?_
 refine jJ 2 rfl rfl rfl rfl ?_; intro b2
 refine jJ 3 rfl rfl rfl rfl ?_; intro b3
 refine yK 4 ze75 rfl rfl rfl ?_; intro b4
 refine qJ ?_
 refine qQ ?_
 refine qK ?_
 refine jV 4 mo (by kernel_rfl) ?_
 simp only [List.take_succ_cons, List.take_zero, List.drop_succ_cons, List.drop_zero]
 refine zH (qV 2 ty77 rfl rfl rfl) rfl rfl rfl ?_
 refine doG_callNewF en96 rfl (fun w' _ => pMover _ _ _ _ _ _ _ _ _ _ _ _ _ _ _ _ _ _ _ _ _ _ _ _ w') rfl rfl rfl ?_
 refine zH (qV 3 ty75 rfl rfl rfl) rfl rfl rfl ?_
 refine doG_callFG (F := v3) (first := fun _ => []) (cap := fun b => [.pointer (some ⟨b, 0, none⟩)]) 6 rfl (fun _ => rfl) en139 (fun u => rfl) (fun b w _ hb => pMove _ _ _ _ _ _ _ _ _ _ _ _ _ _ _ _ _ _ _ _ _ _ _ _ _ _ _ _ _ _ _ w hb) (fun u => rfl) (by decide) rfl ?_; intro r8 hr8
 refine uU ?_
 refine tail_ghost ?_; intro u6
 refine kJ ?_
 refine qG 4 ty75 rfl rfl rfl rfl rfl rfl rfl rfl ?_
 refine qJ ?_
 refine qQ ?_
 refine zV ?_
 refine zQ (rs := [.cell 4 75]) rfl (resC (zJ 4 rfl rfl ty75 rfl) (resN)) (congrArg (v3) (?_ : ⟨⟨_, _⟩, ⟨_, _⟩, ⟨_, _⟩⟩ = Po.app (⟨⟨⟨⟨pa0, pa1⟩, ⟨pa2, pa3⟩, ⟨pa4, pa5⟩⟩, ⟨⟨pa6, pa7⟩, ⟨pa8, pa9⟩, ⟨pa10, pa11⟩⟩, ⟨⟨pa12, pa13⟩, ⟨pa14, pa15⟩, ⟨pa16, pa17⟩⟩⟩, ⟨⟨pa18, pa19⟩, ⟨pa20, pa21⟩, ⟨pa22, pa23⟩⟩⟩ : Po) (⟨⟨va0, va1⟩, ⟨va2, va3⟩, ⟨va4, va5⟩⟩ : V3)))
 subst_vars; rfl
theorem qApply (pa0 pa1 pa2 pa3 pa4 pa5 pa6 pa7 pa8 pa9 pa10 pa11 pa12 pa13 pa14 pa15 pa16 pa17 pa18 pa19 pa20 pa21 pa22 pa23 : Int) (va0 va1 va2 va3 va4 va5 : Int) (w : World) : Calls Tryz.prog 32 [.agg #[.int .i64 pa0, .int .i64 pa1, .int .i64 pa2, .int .i64 pa3, .int .i64 pa4, .int .i64 pa5, .int .i64 pa6, .int .i64 pa7, .int .i64 pa8, .int .i64 pa9, .int .i64 pa10, .int .i64 pa11, .int .i64 pa12, .int .i64 pa13, .int .i64 pa14, .int .i64 pa15, .int .i64 pa16, .int .i64 pa17, .int .i64 pa18, .int .i64 pa19, .int .i64 pa20, .int .i64 pa21, .int .i64 pa22, .int .i64 pa23], .agg #[.int .i64 va0, .int .i64 va1, .int .i64 va2, .int .i64 va3, .int .i64 va4, .int .i64 va5]].toArray w (Rets (v3 (Po.app (⟨⟨⟨⟨pa0, pa1⟩, ⟨pa2, pa3⟩, ⟨pa4, pa5⟩⟩, ⟨⟨pa6, pa7⟩, ⟨pa8, pa9⟩, ⟨pa10, pa11⟩⟩, ⟨⟨pa12, pa13⟩, ⟨pa14, pa15⟩, ⟨pa16, pa17⟩⟩⟩, ⟨⟨pa18, pa19⟩, ⟨pa20, pa21⟩, ⟨pa22, pa23⟩⟩⟩ : Po) (⟨⟨va0, va1⟩, ⟨va2, va3⟩, ⟨va4, va5⟩⟩ : V3))) (w)) := by
 refine zK (n := 12) Tryz.func32 rfl rfl rfl ?_
 refine qK ?_
 refine qZ ?_
 refine jJ 2 rfl rfl rfl rfl ?_; intro b2
 refine jJ 3 rfl rfl rfl rfl ?_; intro b3
 refine yK 4 ze75 rfl rfl rfl ?_; intro b4
 refine qJ ?_
 refine qQ ?_
 refine qK ?_
 refine jV 7 mo (by kernel_rfl) ?_
 simp only [List.take_succ_cons, List.take_zero, List.drop_succ_cons, List.drop_zero]
 refine zH (qX fa77_1 rfl) rfl rfl rfl ?_
 refine zH (qV 2 ty75 rfl rfl rfl) rfl rfl rfl ?_
 refine zH (qX fa77_0 rfl) rfl rfl rfl ?_
 refine zH (qV 2 ty74 rfl rfl rfl) rfl rfl rfl ?_
 refine zH (qV 3 ty75 rfl rfl rfl) rfl rfl rfl ?_
 refine kK (F := v3) (zY en63 rfl (fun w _ => rApply _ _ _ _ _ _ _ _ _ _ _ _ _ _ _ _ _ _ _ _ _ _ _ _  w)) rfl rfl rfl ?_; intro r10 hr10
 refine kK (F := v3) (zY en62 rfl (fun w _ => rAddVec _ _ _ _ _ _ _ _ _ _ _ _  w)) rfl rfl rfl ?_; intro r11 hr11
 refine uU ?_
 refine kJ ?_
 refine qG 4 ty75 rfl rfl rfl rfl rfl rfl rfl rfl ?_
 refine qJ ?_
 refine qQ ?_
 refine zV ?_
 refine zQ (rs := [.cell 4 75]) rfl (resC (zJ 4 rfl rfl ty75 rfl) (resN)) (congrArg (v3) (?_ : ⟨⟨_, _⟩, ⟨_, _⟩, ⟨_, _⟩⟩ = Po.app (⟨⟨⟨⟨pa0, pa1⟩, ⟨pa2, pa3⟩, ⟨pa4, pa5⟩⟩, ⟨⟨pa6, pa7⟩, ⟨pa8, pa9⟩, ⟨pa10, pa11⟩⟩, ⟨⟨pa12, pa13⟩, ⟨pa14, pa15⟩, ⟨pa16, pa17⟩⟩⟩, ⟨⟨pa18, pa19⟩, ⟨pa20, pa21⟩, ⟨pa22, pa23⟩⟩⟩ : Po) (⟨⟨va0, va1⟩, ⟨va2, va3⟩, ⟨va4, va5⟩⟩ : V3)))
 subst_vars; rfl
end Go.Proofs.YtmbnpjpggccefaaGreat
namespace Go.Proofs.YtmbnpjpggccefaaGreat.Od
open Go.Rx Rt Go.Sx Go.RowKit
noncomputable def o_mRound : List PV → Option (Bool × Ret) := fun ps => match ps with
 | [.n .i64 n, .n .i64 k] => some (decide (0 < k ∧ k ≤ 9223372036854775807), .v (.n .i64 (n % k)))
 | _ => none
theorem ok_mRound : OneOk Tryz.prog 15 o_mRound := by
 intro ps r h
 unfold o_mRound at h
 split at h
 ·simp only [Option.some.injEq, Prod.mk.injEq] at h
  obtain ⟨hg, rfl⟩ := h
  exact yJ (zZ Tryz.func15 (by kernel_rfl) (by kernel_rfl)) rfl rfl (fun w => mRound _ _ (of_decide_eq_true hg) w)
 ·cases h
noncomputable def L1 : OrL := (15, o_mRound) :: ([] : OrL)
theorem zYU : AllP (fun x : Nat × (List PV → Option (Bool × Ret)) => OneOk Tryz.prog x.1 x.2) L1 := ⟨ok_mRound, trivial⟩
noncomputable def o_iOf : List PV → Option (Bool × Ret) := fun ps => match ps with
 | [.n .i64 x] => some (true, .v (.a (ivC (Iv.of x))))
 | _ => none
theorem ok_iOf : OneOk Tryz.prog 99 o_iOf := by
 intro ps r h
 unfold o_iOf at h
 split at h
 ·simp only [Option.some.injEq, Prod.mk.injEq] at h
  obtain ⟨hg, rfl⟩ := h
  exact yJ (zZ Tryz.func99 (by kernel_rfl) (by kernel_rfl)) rfl rfl (fun w => iOf _ w)
 ·cases h
noncomputable def L2 : OrL := (99, o_iOf) :: L1
theorem zYJ : AllP (fun x : Nat × (List PV → Option (Bool × Ret)) => OneOk Tryz.prog x.1 x.2) L2 := ⟨ok_iOf, zYU⟩
noncomputable def o_pApply : List PV → Option (Bool × Ret) := fun ps => match ps with
 | [.a p', .a v'] => (poD p').bind fun p => (v3D v').bind fun v => some (true, .v (.a (v3C (Po.app p v))))
 | _ => none
theorem ok_pApply : OneOk Tryz.prog 116 o_pApply := by
 intro ps r h
 unfold o_pApply at h
 split at h
 ·simp only [Option.bind_eq_some_iff, Option.some.injEq, Prod.mk.injEq] at h
  obtain ⟨p, hp, v, hv, hg, rfl⟩ := h
  rw [poD_eq hp]
  rw [v3D_eq hv]
  exact yJ (zZ Tryz.func116 (by kernel_rfl) (by kernel_rfl)) rfl rfl (fun w => pApply _ _ _ _ _ _ _ _ _ _ _ _ _ _ _ _ _ _ _ _ _ _ _ _ _ _ _ _ _ _ w)
 ·cases h
noncomputable def L3 : OrL := (116, o_pApply) :: L2
theorem L3_ok : AllP (fun x : Nat × (List PV → Option (Bool × Ret)) => OneOk Tryz.prog x.1 x.2) L3 := ⟨ok_pApply, zYJ⟩
noncomputable def o_mApply : List PV → Option (Bool × Ret) := fun ps => match ps with
 | [.a m', .a v'] => (m3D m').bind fun m => (v3D v').bind fun v => some (true, .v (.a (v3C (M3.apply m v))))
 | _ => none
theorem ok_mApply : OneOk Tryz.prog 141 o_mApply := by
 intro ps r h
 unfold o_mApply at h
 split at h
 ·simp only [Option.bind_eq_some_iff, Option.some.injEq, Prod.mk.injEq] at h
  obtain ⟨m, hm, v, hv, hg, rfl⟩ := h
  rw [m3D_eq hm]
  rw [v3D_eq hv]
  exact yJ (zZ Tryz.func141 (by kernel_rfl) (by kernel_rfl)) rfl rfl (fun w => mApply _ _ _ _ _ _ _ _ _ _ _ _ _ _ _ _ _ _ _ _ _ _ _ _ w)
 ·cases h
noncomputable def L4 : OrL := (141, o_mApply) :: L3
theorem zYK : AllP (fun x : Nat × (List PV → Option (Bool × Ret)) => OneOk Tryz.prog x.1 x.2) L4 := ⟨ok_mApply, L3_ok⟩
noncomputable def o_mPoint : List PV → Option (Bool × Ret) := fun ps => match ps with
 | [.a z'] => (z3D z').bind fun z => some (true, .v (.a (v3C (V3.of z))))
 | _ => none
theorem ok_mPoint : OneOk Tryz.prog 59 o_mPoint := by
 intro ps r h
 unfold o_mPoint at h
 split at h
 ·simp only [Option.bind_eq_some_iff, Option.some.injEq, Prod.mk.injEq] at h
  obtain ⟨z, hz, hg, rfl⟩ := h
  rw [z3D_eq hz]
  exact yJ (zZ Tryz.func59 (by kernel_rfl) (by kernel_rfl)) rfl rfl (fun w => mPoint _ _ _ w)
 ·cases h
noncomputable def L5 : OrL := (59, o_mPoint) :: L4
theorem L5_ok : AllP (fun x : Nat × (List PV → Option (Bool × Ret)) => OneOk Tryz.prog x.1 x.2) L5 := ⟨ok_mPoint, zYK⟩
set_option maxRecDepth 100000 in
theorem tr_sDot (nx : Int) (ny : Int) (nz : Int) (v0 : Int) (v1 : Int) (v2 : Int) (v3 : Int) (v4 : Int) (v5 : Int) : runK T (OrL.k L5) 60 94 [.a [.n .i64 nx, .n .i64 ny, .n .i64 nz], .a [.n .i64 v0, .n .i64 v1, .n .i64 v2, .n .i64 v3, .n .i64 v4, .n .i64 v5]] =
 bif (decide (nx < (-16384))) then some (.v (.t [.n .i64 0, .n .i64 0]), [])
 else bif (decide (16384 < nx)) then some (.v (.t [.n .i64 0, .n .i64 0]), [])
 else bif (decide (ny < (-16384))) then some (.v (.t [.n .i64 0, .n .i64 0]), [])
 else bif (decide (16384 < ny)) then some (.v (.t [.n .i64 0, .n .i64 0]), [])
 else bif (decide (nz < (-16384))) then some (.v (.t [.n .i64 0, .n .i64 0]), [])
 else bif (decide (16384 < nz)) then some (.v (.t [.n .i64 0, .n .i64 0]), [])
 else bif (!((decide (nx = 0)) && ((decide (ny = 0)) && ((decide (nz = 0)) && true)))) then (bif (decide (v0 < (-268435456))) then some (.v (.t [.n .i64 0, .n .i64 0]), [])
  else bif (decide (v1 < v0)) then some (.v (.t [.n .i64 0, .n .i64 0]), [])
  else bif (decide (268435456 < v1)) then some (.v (.t [.n .i64 0, .n .i64 0]), [])
  else bif (decide (v2 < (-268435456))) then some (.v (.t [.n .i64 0, .n .i64 0]), [])
  else bif (decide (v3 < v2)) then some (.v (.t [.n .i64 0, .n .i64 0]), [])
  else bif (decide (268435456 < v3)) then some (.v (.t [.n .i64 0, .n .i64 0]), [])
  else bif (decide (v4 < (-268435456))) then some (.v (.t [.n .i64 0, .n .i64 0]), [])
  else bif (decide (v5 < v4)) then some (.v (.t [.n .i64 0, .n .i64 0]), [])
  else bif (decide (268435456 < v5)) then some (.v (.t [.n .i64 0, .n .i64 0]), [])
  else some (.v (.t [.n .i64 (IntKind.i64.wrap ((IntKind.i64.wrap ((IntKind.i64.wrap (0 + (min (IntKind.i64.wrap (nx * v0)) (IntKind.i64.wrap (nx * v1))))) + (min (IntKind.i64.wrap (ny * v2)) (IntKind.i64.wrap (ny * v3))))) + (min (IntKind.i64.wrap (nz * v4)) (IntKind.i64.wrap (nz * v5))))), .n .i64 (IntKind.i64.wrap ((IntKind.i64.wrap ((IntKind.i64.wrap (0 + (max (IntKind.i64.wrap (nx * v0)) (IntKind.i64.wrap (nx * v1))))) + (max (IntKind.i64.wrap (ny * v2)) (IntKind.i64.wrap (ny * v3))))) + (max (IntKind.i64.wrap (nz * v4)) (IntKind.i64.wrap (nz * v5)))))]), []))
 else some (.v (.t [.n .i64 0, .n .i64 0]), []) := by kernel_rfl
noncomputable def dot (nx ny nz v0 v1 v2 v3 v4 v5 : Int) : Int × Int := (bif (decide (nx < (-16384))) then (0, 0) else (bif (decide (16384 < nx)) then (0, 0) else (bif (decide (ny < (-16384))) then (0, 0) else (bif (decide (16384 < ny)) then (0, 0) else (bif (decide (nz < (-16384))) then (0, 0) else (bif (decide (16384 < nz)) then (0, 0) else (bif (!((decide (nx = 0)) && ((decide (ny = 0)) && ((decide (nz = 0)) && true)))) then (bif (decide (v0 < (-268435456))) then (0, 0) else (bif (decide (v1 < v0)) then (0, 0) else (bif (decide (268435456 < v1)) then (0, 0) else (bif (decide (v2 < (-268435456))) then (0, 0) else (bif (decide (v3 < v2)) then (0, 0) else (bif (decide (268435456 < v3)) then (0, 0) else (bif (decide (v4 < (-268435456))) then (0, 0) else (bif (decide (v5 < v4)) then (0, 0) else (bif (decide (268435456 < v5)) then (0, 0) else ((IntKind.i64.wrap ((IntKind.i64.wrap ((IntKind.i64.wrap (0 + (min (IntKind.i64.wrap (nx * v0)) (IntKind.i64.wrap (nx * v1))))) + (min (IntKind.i64.wrap (ny * v2)) (IntKind.i64.wrap (ny * v3))))) + (min (IntKind.i64.wrap (nz * v4)) (IntKind.i64.wrap (nz * v5))))), (IntKind.i64.wrap ((IntKind.i64.wrap ((IntKind.i64.wrap (0 + (max (IntKind.i64.wrap (nx * v0)) (IntKind.i64.wrap (nx * v1))))) + (max (IntKind.i64.wrap (ny * v2)) (IntKind.i64.wrap (ny * v3))))) + (max (IntKind.i64.wrap (nz * v4)) (IntKind.i64.wrap (nz * v5))))))))))))))) else (0, 0))))))))
def qVZ : Int × Int → Option (Ret × Mem) := fun v => some (.v (.t [.n .i64 v.1, .n .i64 v.2]), [])
theorem sp_sDot (nx ny nz v0 v1 v2 v3 v4 v5 : Int) : runK T (OrL.k L5) 60 94 [.a [.n .i64 nx, .n .i64 ny, .n .i64 nz], .a [.n .i64 v0, .n .i64 v1, .n .i64 v2, .n .i64 v3, .n .i64 v4, .n .i64 v5]] = some (.v (.t [.n .i64 (dot nx ny nz v0 v1 v2 v3 v4 v5).1, .n .i64 (dot nx ny nz v0 v1 v2 v3 v4 v5).2]), []) := by
 rw [tr_sDot]
 exact ((qZU (F := qVZ) rfl (qZU (F := qVZ) rfl (qZU (F := qVZ) rfl (qZU (F := qVZ) rfl (qZU (F := qVZ) rfl (qZU (F := qVZ) rfl (qZU (F := qVZ) (qZU (F := qVZ) rfl (qZU (F := qVZ) rfl (qZU (F := qVZ) rfl (qZU (F := qVZ) rfl (qZU (F := qVZ) rfl (qZU (F := qVZ) rfl (qZU (F := qVZ) rfl (qZU (F := qVZ) rfl (qZU (F := qVZ) rfl rfl))))))))) rfl))))))) : _ = qVZ (dot nx ny nz v0 v1 v2 v3 v4 v5))
noncomputable def o_sDot : List PV → Option (Bool × Ret) := fun ps => match ps with
 | [.a z', .a v'] => (z3D z').bind fun z => (v3D v').bind fun v => some (true, .v (.t [.n .i64 (dot z.x z.y z.z v.x.lo v.x.hi v.y.lo v.y.hi v.z.lo v.z.hi).1, .n .i64 (dot z.x z.y z.z v.x.lo v.x.hi v.y.lo v.y.hi v.z.lo v.z.hi).2]))
 | _ => none
theorem ok_sDot : OneOk Tryz.prog 94 o_sDot := by
 intro ps r h
 unfold o_sDot at h
 split at h
 ·simp only [Option.bind_eq_some_iff, Option.some.injEq, Prod.mk.injEq] at h
  obtain ⟨z, hz, v, hv, hg, rfl⟩ := h
  rw [z3D_eq hz]
  rw [v3D_eq hv]
  exact yV tabOk mixed (OrL.ok L5_ok) (sp_sDot _ _ _ _ _ _ _ _ _)
 ·cases h
noncomputable def L6 : OrL := (94, o_sDot) :: L5
theorem L6_ok : AllP (fun x : Nat × (List PV → Option (Bool × Ret)) => OneOk Tryz.prog x.1 x.2) L6 := ⟨ok_sDot, L5_ok⟩
theorem bz {α : Type} {p : Prop} [Decidable p] {x z : α} (h : ¬ p → x = z) : (bif decide p then z else x) = z := by
 by_cases hp : p
 ·rw [decide_eq_true hp]; rfl
 ·rw [decide_eq_false hp]; exact h hp
end Go.Proofs.YtmbnpjpggccefaaGreat.Od

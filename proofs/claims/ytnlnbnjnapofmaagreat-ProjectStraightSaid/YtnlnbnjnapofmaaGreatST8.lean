/- Part 8 of the texts behind the last one: rules and contracts. No condition. -/
import Derived.Test.YtnlnbnjnapofmaaGreatST7
namespace Go.Proofs.YtnlnbnjnapofmaaGreat
open Go.Sx
theorem en178 : Enters Tryz.prog 178 := yW Tryz.func178 (by kernel_rfl) (by kernel_rfl)
theorem en179 : Enters Tryz.prog 179 := yW Tryz.func179 (by kernel_rfl) (by kernel_rfl)
theorem ze214 : zeroIs Tryz.prog 214 (.agg #[.int .i64 0, .int .i64 0, .int .i64 0, .int .i64 0, .int .i64 0, .int .i64 0, .int .i64 0, .int .i64 0, .int .i64 0, .int .i64 0, .int .i64 0]) := by unfold zeroIs; kernel_rfl
theorem ar214 : arrB Tryz.prog 214 11 1 = true := by kernel_rfl
theorem ty214 : tyB Tryz.prog 214 true 11 = true := by kernel_rfl
theorem sl48 : slcB Tryz.prog 48 2 1 = true := by kernel_rfl
theorem en207 : Enters Tryz.prog 207 := yW Tryz.func207 (by kernel_rfl) (by kernel_rfl)
theorem en209 : Enters Tryz.prog 209 := yW Tryz.func209 (by kernel_rfl) (by kernel_rfl)
theorem ze2 : zeroIs Tryz.prog 2 (.int .i64 0) := by unfold zeroIs; kernel_rfl
theorem en208 : Enters Tryz.prog 208 := yW Tryz.func208 (by kernel_rfl) (by kernel_rfl)
theorem en210 : Enters Tryz.prog 210 := yW Tryz.func210 (by kernel_rfl) (by kernel_rfl)
theorem en205 : Enters Tryz.prog 205 := yW Tryz.func205 (by kernel_rfl) (by kernel_rfl)
theorem en206 : Enters Tryz.prog 206 := yW Tryz.func206 (by kernel_rfl) (by kernel_rfl)
theorem en202 : Enters Tryz.prog 202 := yW Tryz.func202 (by kernel_rfl) (by kernel_rfl)
theorem en203 : Enters Tryz.prog 203 := yW Tryz.func203 (by kernel_rfl) (by kernel_rfl)
theorem en191 : Enters Tryz.prog 191 := yW Tryz.func191 (by kernel_rfl) (by kernel_rfl)
theorem en196 : Enters Tryz.prog 196 := yW Tryz.func196 (by kernel_rfl) (by kernel_rfl)
theorem en204 : Enters Tryz.prog 204 := yW Tryz.func204 (by kernel_rfl) (by kernel_rfl)
theorem en199 : Enters Tryz.prog 199 := yW Tryz.func199 (by kernel_rfl) (by kernel_rfl)
theorem en200 : Enters Tryz.prog 200 := yW Tryz.func200 (by kernel_rfl) (by kernel_rfl)
theorem en201 : Enters Tryz.prog 201 := yW Tryz.func201 (by kernel_rfl) (by kernel_rfl)
theorem en86 : Enters Tryz.prog 86 := yW Tryz.func86 (by kernel_rfl) (by kernel_rfl)
theorem en194 : Enters Tryz.prog 194 := yW Tryz.func194 (by kernel_rfl) (by kernel_rfl)
theorem en195 : Enters Tryz.prog 195 := yW Tryz.func195 (by kernel_rfl) (by kernel_rfl)
theorem fSD14 (a : Int) (w : World) : Calls Tryz.prog 178 [.int .i64 a, .int .i64 14].toArray w (Rets (vI (a / 16384)) w) := fShiftDown a 14 (by decide) w
theorem fSD16 (a : Int) (w : World) : Calls Tryz.prog 178 [.int .i64 a, .int .i64 16].toArray w (Rets (vI (a / 65536)) w) := fShiftDown a 16 (by decide) w
theorem fSD30 (a : Int) (w : World) : Calls Tryz.prog 178 [.int .i64 a, .int .i64 30].toArray w (Rets (vI (a / 1073741824)) w) := fShiftDown a 30 (by decide) w
theorem fSU14 (a : Int) (ha : In64 a) (w : World) : Calls Tryz.prog 179 [.int .i64 a, .int .i64 14].toArray w (Rets (vI (ceilI a 16384)) w) := fShiftUp a 14 (by decide) ha w
theorem fSU16 (a : Int) (ha : In64 a) (w : World) : Calls Tryz.prog 179 [.int .i64 a, .int .i64 16].toArray w (Rets (vI (ceilI a 65536)) w) := fShiftUp a 16 (by decide) ha w
theorem fSU30 (a : Int) (ha : In64 a) (w : World) : Calls Tryz.prog 179 [.int .i64 a, .int .i64 30].toArray w (Rets (vI (ceilI a 1073741824)) w) := fShiftUp a 30 (by decide) ha w
theorem aMod (a : Int) (w : World) : Calls Tryz.prog 202 [.int .i64 a].toArray w (Rets (vI (a % 65536)) (w)) := by
  refine yQ (n := 5) Tryz.func202 rfl rfl rfl ?_
  refine qJ ?_
  refine qZ ?_
  refine qK (qW rfl) rfl rfl rfl ?_
  refine qU ?_
  refine qQ ?_
  refine qJ ?_
  refine qZ ?_
  refine qK (qY rfl) rfl rfl rfl ?_
  refine qK (opV_and rfl rfl and_mask) rfl rfl rfl ?_
  refine qK (qW rfl) rfl rfl rfl ?_
  refine qU ?_
  refine qQ ?_
  refine yU ?_
  refine zH (rs := [.tmp 2]) rfl (resC (jU rfl) (resN)) (congrArg (vI) (?_ : _ = a % 65536))
  first | rfl | (subst_vars; rfl) | (subst_vars; simp_all)
theorem aCeil (a : Int) (b : Int) (ha : 0 ≤ a ∧ a ≤ 1073741824) (hb : 0 < b ∧ b ≤ 1073741824) (w : World) : Calls Tryz.prog 209 [.int .i64 a, .int .i64 b].toArray w (Rets (vI (ceilI a b)) (w)) := by
  refine yQ (n := 11) Tryz.func209 rfl rfl rfl ?_
  refine qJ ?_
  refine qZ ?_
  refine qK (qW rfl) rfl rfl rfl ?_
  refine qU ?_
  refine qQ ?_
  refine qJ ?_
  refine qZ ?_
  refine qK (qY rfl) rfl rfl rfl ?_
  refine qK (qY rfl) rfl rfl rfl ?_
  refine qK (yJ rfl rfl (by first | exact zG ⟨by omega, by omega⟩ | rfl)) rfl rfl rfl ?_
  refine qK (opV_sub rfl rfl (by first | exact zG ⟨by omega, by omega⟩ | rfl)) rfl rfl rfl ?_
  refine qK (qY rfl) rfl rfl rfl ?_
  refine qK (opV_quo rfl rfl (by first | decide | omega) (ceil_quo ha hb)) rfl rfl rfl ?_
  refine qK (qW rfl) rfl rfl rfl ?_
  refine qU ?_
  refine qQ ?_
  refine yU ?_
  refine zH (rs := [.tmp 4]) rfl (resC (jU rfl) (resN)) (congrArg (vI) (?_ : _ = ceilI a b))
  first | rfl | (subst_vars; rfl) | (subst_vars; simp_all)
theorem aEnc (lo : Int) (hi : Int) (hh : In64 hi) (w : World) : Calls Tryz.prog 210 [.int .i64 lo, .int .i64 hi].toArray w (Rets (iv (encI lo hi)) (w)) := by
  refine yQ (n := 12) Tryz.func210 rfl rfl rfl ?_
  refine qJ ?_
  refine qZ ?_
  refine jZ 4 ze88 rfl rfl rfl ?_; intro b4
  refine qU ?_
  refine qQ ?_
  refine qJ ?_
  refine qZ ?_
  refine qK (qY rfl) rfl rfl rfl ?_
  refine kY (F := vI) (zY en178 rfl (fun w _ => fSD14 _ w)) rfl rfl rfl ?_; intro r6 hr6
  refine qK (opV_max2 rfl rfl) rfl rfl rfl ?_
  refine qK (qY rfl) rfl rfl rfl ?_
  refine kY (F := vI) (zY en179 rfl (fun w _ => fSU14 _ hh w)) rfl rfl rfl ?_; intro r9 hr9
  refine qK (opV_min2 rfl rfl) rfl rfl rfl ?_
  refine qK (jV la88 rfl rfl) rfl rfl rfl ?_
  refine zZ 4 ty88 rfl rfl rfl rfl rfl rfl rfl rfl ?_
  refine qU ?_
  refine qQ ?_
  refine yU ?_
  refine zH (rs := [.cell 4 88]) rfl (resC (yY 4 rfl rfl ty88 rfl) (resN)) (congrArg (iv) (?_ : ⟨_, _⟩ = encI lo hi))
  subst_vars; first | (simp_all [encI]; done) | (simp_all [encI] <;> omega) | grind [encI]
theorem aPow (x : Int) (h : 0 ≤ x ∧ x ≤ 8192) (w : World) : Calls Tryz.prog 207 [.int .i64 x].toArray w (Rets (powV (x)) (w)) := by
  refine yQ (n := 43) Tryz.func207 rfl rfl rfl ?_
  refine qJ ?_
  refine qZ ?_
  refine jZ 2 ze214 rfl rfl rfl ?_; intro b2
  refine jZ 3 ze214 rfl rfl rfl ?_; intro b3
  refine qU ?_
  refine qQ ?_
  refine qJ ?_
  refine qZ ?_
  refine jZ 4 ze214 rfl rfl rfl ?_; intro b4
  refine jZ 5 ze214 rfl rfl rfl ?_; intro b5
  refine qU ?_
  refine qQ ?_
  refine qJ ?_
  refine qZ ?_
  refine qK (qX ar214 rfl rfl (by first | decide | omega) (by first | decide | omega)) rfl rfl rfl ?_
  refine zZ 4 ty2 rfl rfl rfl rfl rfl rfl rfl rfl ?_
  refine qK (qX ar214 rfl rfl (by first | decide | omega) (by first | decide | omega)) rfl rfl rfl ?_
  refine zZ 5 ty2 rfl rfl rfl rfl rfl rfl rfl rfl ?_
  refine qU ?_
  refine qQ ?_
  refine qJ ?_
  refine qZ ?_
  refine qK (qY rfl) rfl rfl rfl ?_
  refine qK (kZ rfl rfl (by first | exact zG ⟨by omega, by omega⟩ | rfl)) rfl rfl rfl ?_
  refine kY (F := vI) (zY en178 rfl (fun w _ => fSD16 _ w)) rfl rfl rfl ?_; intro r11 hr11
  have qr11 : 0 ≤ r11 ∧ r11 ≤ 1073741824 := by omega
  refine qK (qX ar214 rfl rfl (by first | decide | omega) (by first | decide | omega)) rfl rfl rfl ?_
  refine zZ 4 ty2 rfl rfl rfl rfl rfl rfl rfl rfl ?_
  refine qU ?_
  refine qQ ?_
  refine qJ ?_
  refine qZ ?_
  refine qK (qY rfl) rfl rfl rfl ?_
  refine qK (kZ rfl rfl (by first | exact zG ⟨by omega, by omega⟩ | rfl)) rfl rfl rfl ?_
  refine kY (F := vI) (zY en179 rfl (fun w _ => fSU16 _ (by unfold In64; omega) w)) rfl rfl rfl ?_; intro r15 hr15
  have qr15 := up1_bnd hr15 h
  refine qK (qX ar214 rfl rfl (by first | decide | omega) (by first | decide | omega)) rfl rfl rfl ?_
  refine zZ 5 ty2 rfl rfl rfl rfl rfl rfl rfl rfl ?_
  refine qU ?_
  refine qQ ?_
  refine qJ ?_
  refine qJ ?_
  refine qZ ?_
  refine qK (qW rfl) rfl rfl rfl ?_
  refine qU ?_
  refine qQ ?_
  refine zK ?_
  refine kX 10 ?_
  refine yZ ?_
  refine qJ ?_
  refine qJ ?_
  refine jY (ks := [0, 2, 3, 4, 5, 6]) rfl ?_
  refine qZ ?_
  refine qK (qY rfl) rfl rfl rfl ?_
  refine qK (yK rfl rfl) rfl rfl rfl ?_
  refine qU ?_
  refine qQ ?_
  refine zV rfl (by decide) ?_
  refine zU ?_
  refine qQ ?_
  refine qJ ?_
  refine zK ?_
  refine qJ ?_
  refine yX 10 mo (by kernel_rfl) ?_
  simp only [List.take_succ_cons, List.take_zero, List.drop_succ_cons, List.drop_zero]
  refine qG (qY rfl) rfl rfl rfl ?_
  refine qG (qY rfl) rfl rfl rfl ?_
  refine qG (opV_sub rfl rfl (by first | exact zG ⟨by omega, by omega⟩ | rfl)) rfl rfl rfl ?_
  refine qG (qX ar214 rfl rfl (by first | decide | omega) (by first | decide | omega)) rfl rfl rfl ?_
  refine qG (zJ 4 ty2 rfl rfl rfl) rfl rfl rfl ?_
  refine qG (qX ar214 rfl rfl (by first | decide | omega) (by first | decide | omega)) rfl rfl rfl ?_
  refine qG (zJ 4 ty2 rfl rfl rfl) rfl rfl rfl ?_
  refine qG (kZ rfl rfl (mul_in (by omega) (by omega))) rfl rfl rfl ?_
  refine yG (F := vI) (zY en178 rfl (fun w _ => fSD30 _ w)) rfl rfl rfl ?_; intro r29 hr29
  have qr29 := step_dn hr29 (by omega) (by omega)
  refine qG (qX ar214 rfl rfl (by first | decide | omega) (by first | decide | omega)) rfl rfl rfl ?_
  refine jK ?_
  refine yV ?_
  refine zZ 4 ty2 rfl rfl rfl rfl rfl rfl rfl rfl ?_
  refine qU ?_
  refine qQ ?_
  refine yX 10 mo (by kernel_rfl) ?_
  simp only [List.take_succ_cons, List.take_zero, List.drop_succ_cons, List.drop_zero]
  refine qG (qY rfl) rfl rfl rfl ?_
  refine qG (qY rfl) rfl rfl rfl ?_
  refine qG (opV_sub rfl rfl (by first | exact zG ⟨by omega, by omega⟩ | rfl)) rfl rfl rfl ?_
  refine qG (qX ar214 rfl rfl (by first | decide | omega) (by first | decide | omega)) rfl rfl rfl ?_
  refine qG (zJ 5 ty2 rfl rfl rfl) rfl rfl rfl ?_
  refine qG (qX ar214 rfl rfl (by first | decide | omega) (by first | decide | omega)) rfl rfl rfl ?_
  refine qG (zJ 5 ty2 rfl rfl rfl) rfl rfl rfl ?_
  refine qG (kZ rfl rfl (mul_in (by omega) (by omega))) rfl rfl rfl ?_
  refine yG (F := vI) (zY en179 rfl (fun w _ => fSU30 _ (in64_mul (by omega) (by omega)) w)) rfl rfl rfl ?_; intro r39 hr39
  have qr39 := step_up hr39 (by omega) (by omega)
  refine qG (qX ar214 rfl rfl (by first | decide | omega) (by first | decide | omega)) rfl rfl rfl ?_
  refine jK ?_
  refine yV ?_
  refine zZ 5 ty2 rfl rfl rfl rfl rfl rfl rfl rfl ?_
  refine qU ?_
  refine qV ?_
  refine qQ ?_
  refine qZ ?_
  refine qK (qY rfl) rfl rfl rfl ?_
  refine qK (yJ rfl rfl (by first | exact zG ⟨by omega, by omega⟩ | rfl)) rfl rfl rfl ?_
  refine qK (qW rfl) rfl rfl rfl ?_
  refine qU ?_
  refine zW ?_
  refine yZ ?_
  refine qJ ?_
  refine qJ ?_
  refine jY (ks := [0, 2, 3, 4, 5, 6]) rfl ?_
  refine qZ ?_
  refine qK (qY rfl) rfl rfl rfl ?_
  refine qK (yK rfl rfl) rfl rfl rfl ?_
  refine qU ?_
  refine qQ ?_
  refine zV rfl (by decide) ?_
  refine zU ?_
  refine qQ ?_
  refine qJ ?_
  refine zK ?_
  refine qJ ?_
  refine yX 10 mo (by kernel_rfl) ?_
  simp only [List.take_succ_cons, List.take_zero, List.drop_succ_cons, List.drop_zero]
  refine qG (qY rfl) rfl rfl rfl ?_
  refine qG (qY rfl) rfl rfl rfl ?_
  refine qG (opV_sub rfl rfl (by first | exact zG ⟨by omega, by omega⟩ | rfl)) rfl rfl rfl ?_
  refine qG (qX ar214 rfl rfl (by first | decide | omega) (by first | decide | omega)) rfl rfl rfl ?_
  refine qG (zJ 4 ty2 rfl rfl rfl) rfl rfl rfl ?_
  refine qG (qX ar214 rfl rfl (by first | decide | omega) (by first | decide | omega)) rfl rfl rfl ?_
  refine qG (zJ 4 ty2 rfl rfl rfl) rfl rfl rfl ?_
  refine qG (kZ rfl rfl (mul_in (by omega) (by omega))) rfl rfl rfl ?_
  refine yG (F := vI) (zY en178 rfl (fun w _ => fSD30 _ w)) rfl rfl rfl ?_; intro r29_2 hr29_2
  have qr29_2 := step_dn hr29_2 (by omega) (by omega)
  refine qG (qX ar214 rfl rfl (by first | decide | omega) (by first | decide | omega)) rfl rfl rfl ?_
  refine jK ?_
  refine yV ?_
  refine zZ 4 ty2 rfl rfl rfl rfl rfl rfl rfl rfl ?_
  refine qU ?_
  refine qQ ?_
  refine yX 10 mo (by kernel_rfl) ?_
  simp only [List.take_succ_cons, List.take_zero, List.drop_succ_cons, List.drop_zero]
  refine qG (qY rfl) rfl rfl rfl ?_
  refine qG (qY rfl) rfl rfl rfl ?_
  refine qG (opV_sub rfl rfl (by first | exact zG ⟨by omega, by omega⟩ | rfl)) rfl rfl rfl ?_
  refine qG (qX ar214 rfl rfl (by first | decide | omega) (by first | decide | omega)) rfl rfl rfl ?_
  refine qG (zJ 5 ty2 rfl rfl rfl) rfl rfl rfl ?_
  refine qG (qX ar214 rfl rfl (by first | decide | omega) (by first | decide | omega)) rfl rfl rfl ?_
  refine qG (zJ 5 ty2 rfl rfl rfl) rfl rfl rfl ?_
  refine qG (kZ rfl rfl (mul_in (by omega) (by omega))) rfl rfl rfl ?_
  refine yG (F := vI) (zY en179 rfl (fun w _ => fSU30 _ (in64_mul (by omega) (by omega)) w)) rfl rfl rfl ?_; intro r39_2 hr39_2
  have qr39_2 := step_up hr39_2 (by omega) (by omega)
  refine qG (qX ar214 rfl rfl (by first | decide | omega) (by first | decide | omega)) rfl rfl rfl ?_
  refine jK ?_
  refine yV ?_
  refine zZ 5 ty2 rfl rfl rfl rfl rfl rfl rfl rfl ?_
  refine qU ?_
  refine qV ?_
  refine qQ ?_
  refine qZ ?_
  refine qK (qY rfl) rfl rfl rfl ?_
  refine qK (yJ rfl rfl (by first | exact zG ⟨by omega, by omega⟩ | rfl)) rfl rfl rfl ?_
  refine qK (qW rfl) rfl rfl rfl ?_
  refine qU ?_
  refine zW ?_
  refine yZ ?_
  refine qJ ?_
  refine qJ ?_
  refine jY (ks := [0, 2, 3, 4, 5, 6]) rfl ?_
  refine qZ ?_
  refine qK (qY rfl) rfl rfl rfl ?_
  refine qK (yK rfl rfl) rfl rfl rfl ?_
  refine qU ?_
  refine qQ ?_
  refine zV rfl (by decide) ?_
  refine zU ?_
  refine qQ ?_
  refine qJ ?_
  refine zK ?_
  refine qJ ?_
  refine yX 10 mo (by kernel_rfl) ?_
  simp only [List.take_succ_cons, List.take_zero, List.drop_succ_cons, List.drop_zero]
  refine qG (qY rfl) rfl rfl rfl ?_
  refine qG (qY rfl) rfl rfl rfl ?_
  refine qG (opV_sub rfl rfl (by first | exact zG ⟨by omega, by omega⟩ | rfl)) rfl rfl rfl ?_
  refine qG (qX ar214 rfl rfl (by first | decide | omega) (by first | decide | omega)) rfl rfl rfl ?_
  refine qG (zJ 4 ty2 rfl rfl rfl) rfl rfl rfl ?_
  refine qG (qX ar214 rfl rfl (by first | decide | omega) (by first | decide | omega)) rfl rfl rfl ?_
  refine qG (zJ 4 ty2 rfl rfl rfl) rfl rfl rfl ?_
  refine qG (kZ rfl rfl (mul_in (by omega) (by omega))) rfl rfl rfl ?_
  refine yG (F := vI) (zY en178 rfl (fun w _ => fSD30 _ w)) rfl rfl rfl ?_; intro r29_3 hr29_3
  have qr29_3 := step_dn hr29_3 (by omega) (by omega)
  refine qG (qX ar214 rfl rfl (by first | decide | omega) (by first | decide | omega)) rfl rfl rfl ?_
  refine jK ?_
  refine yV ?_
  refine zZ 4 ty2 rfl rfl rfl rfl rfl rfl rfl rfl ?_
  refine qU ?_
  refine qQ ?_
  refine yX 10 mo (by kernel_rfl) ?_
  simp only [List.take_succ_cons, List.take_zero, List.drop_succ_cons, List.drop_zero]
  refine qG (qY rfl) rfl rfl rfl ?_
  refine qG (qY rfl) rfl rfl rfl ?_
  refine qG (opV_sub rfl rfl (by first | exact zG ⟨by omega, by omega⟩ | rfl)) rfl rfl rfl ?_
  refine qG (qX ar214 rfl rfl (by first | decide | omega) (by first | decide | omega)) rfl rfl rfl ?_
  refine qG (zJ 5 ty2 rfl rfl rfl) rfl rfl rfl ?_
  refine qG (qX ar214 rfl rfl (by first | decide | omega) (by first | decide | omega)) rfl rfl rfl ?_
  refine qG (zJ 5 ty2 rfl rfl rfl) rfl rfl rfl ?_
  refine qG (kZ rfl rfl (mul_in (by omega) (by omega))) rfl rfl rfl ?_
  refine yG (F := vI) (zY en179 rfl (fun w _ => fSU30 _ (in64_mul (by omega) (by omega)) w)) rfl rfl rfl ?_; intro r39_3 hr39_3
  have qr39_3 := step_up hr39_3 (by omega) (by omega)
  refine qG (qX ar214 rfl rfl (by first | decide | omega) (by first | decide | omega)) rfl rfl rfl ?_
  refine jK ?_
  refine yV ?_
  refine zZ 5 ty2 rfl rfl rfl rfl rfl rfl rfl rfl ?_
  refine qU ?_
  refine qV ?_
  refine qQ ?_
  refine qZ ?_
  refine qK (qY rfl) rfl rfl rfl ?_
  refine qK (yJ rfl rfl (by first | exact zG ⟨by omega, by omega⟩ | rfl)) rfl rfl rfl ?_
  refine qK (qW rfl) rfl rfl rfl ?_
  refine qU ?_
  refine zW ?_
  refine yZ ?_
  refine qJ ?_
  refine qJ ?_
  refine jY (ks := [0, 2, 3, 4, 5, 6]) rfl ?_
  refine qZ ?_
  refine qK (qY rfl) rfl rfl rfl ?_
  refine qK (yK rfl rfl) rfl rfl rfl ?_
  refine qU ?_
  refine qQ ?_
  refine zV rfl (by decide) ?_
  refine zU ?_
  refine qQ ?_
  refine qJ ?_
  refine zK ?_
  refine qJ ?_
  refine yX 10 mo (by kernel_rfl) ?_
  simp only [List.take_succ_cons, List.take_zero, List.drop_succ_cons, List.drop_zero]
  refine qG (qY rfl) rfl rfl rfl ?_
  refine qG (qY rfl) rfl rfl rfl ?_
  refine qG (opV_sub rfl rfl (by first | exact zG ⟨by omega, by omega⟩ | rfl)) rfl rfl rfl ?_
  refine qG (qX ar214 rfl rfl (by first | decide | omega) (by first | decide | omega)) rfl rfl rfl ?_
  refine qG (zJ 4 ty2 rfl rfl rfl) rfl rfl rfl ?_
  refine qG (qX ar214 rfl rfl (by first | decide | omega) (by first | decide | omega)) rfl rfl rfl ?_
  refine qG (zJ 4 ty2 rfl rfl rfl) rfl rfl rfl ?_
  refine qG (kZ rfl rfl (mul_in (by omega) (by omega))) rfl rfl rfl ?_
  refine yG (F := vI) (zY en178 rfl (fun w _ => fSD30 _ w)) rfl rfl rfl ?_; intro r29_4 hr29_4
  have qr29_4 := step_dn hr29_4 (by omega) (by omega)
  refine qG (qX ar214 rfl rfl (by first | decide | omega) (by first | decide | omega)) rfl rfl rfl ?_
  refine jK ?_
  refine yV ?_
  refine zZ 4 ty2 rfl rfl rfl rfl rfl rfl rfl rfl ?_
  refine qU ?_
  refine qQ ?_
  refine yX 10 mo (by kernel_rfl) ?_
  simp only [List.take_succ_cons, List.take_zero, List.drop_succ_cons, List.drop_zero]
  refine qG (qY rfl) rfl rfl rfl ?_
  refine qG (qY rfl) rfl rfl rfl ?_
  refine qG (opV_sub rfl rfl (by first | exact zG ⟨by omega, by omega⟩ | rfl)) rfl rfl rfl ?_
  refine qG (qX ar214 rfl rfl (by first | decide | omega) (by first | decide | omega)) rfl rfl rfl ?_
  refine qG (zJ 5 ty2 rfl rfl rfl) rfl rfl rfl ?_
  refine qG (qX ar214 rfl rfl (by first | decide | omega) (by first | decide | omega)) rfl rfl rfl ?_
  refine qG (zJ 5 ty2 rfl rfl rfl) rfl rfl rfl ?_
  refine qG (kZ rfl rfl (mul_in (by omega) (by omega))) rfl rfl rfl ?_
  refine yG (F := vI) (zY en179 rfl (fun w _ => fSU30 _ (in64_mul (by omega) (by omega)) w)) rfl rfl rfl ?_; intro r39_4 hr39_4
  have qr39_4 := step_up hr39_4 (by omega) (by omega)
  refine qG (qX ar214 rfl rfl (by first | decide | omega) (by first | decide | omega)) rfl rfl rfl ?_
  refine jK ?_
  refine yV ?_
  refine zZ 5 ty2 rfl rfl rfl rfl rfl rfl rfl rfl ?_
  refine qU ?_
  refine qV ?_
  refine qQ ?_
  refine qZ ?_
  refine qK (qY rfl) rfl rfl rfl ?_
  refine qK (yJ rfl rfl (by first | exact zG ⟨by omega, by omega⟩ | rfl)) rfl rfl rfl ?_
  refine qK (qW rfl) rfl rfl rfl ?_
  refine qU ?_
  refine zW ?_
  refine yZ ?_
  refine qJ ?_
  refine qJ ?_
  refine jY (ks := [0, 2, 3, 4, 5, 6]) rfl ?_
  refine qZ ?_
  refine qK (qY rfl) rfl rfl rfl ?_
  refine qK (yK rfl rfl) rfl rfl rfl ?_
  refine qU ?_
  refine qQ ?_
  refine zV rfl (by decide) ?_
  refine zU ?_
  refine qQ ?_
  refine qJ ?_
  refine zK ?_
  refine qJ ?_
  refine yX 10 mo (by kernel_rfl) ?_
  simp only [List.take_succ_cons, List.take_zero, List.drop_succ_cons, List.drop_zero]
  refine qG (qY rfl) rfl rfl rfl ?_
  refine qG (qY rfl) rfl rfl rfl ?_
  refine qG (opV_sub rfl rfl (by first | exact zG ⟨by omega, by omega⟩ | rfl)) rfl rfl rfl ?_
  refine qG (qX ar214 rfl rfl (by first | decide | omega) (by first | decide | omega)) rfl rfl rfl ?_
  refine qG (zJ 4 ty2 rfl rfl rfl) rfl rfl rfl ?_
  refine qG (qX ar214 rfl rfl (by first | decide | omega) (by first | decide | omega)) rfl rfl rfl ?_
  refine qG (zJ 4 ty2 rfl rfl rfl) rfl rfl rfl ?_
  refine qG (kZ rfl rfl (mul_in (by omega) (by omega))) rfl rfl rfl ?_
  refine yG (F := vI) (zY en178 rfl (fun w _ => fSD30 _ w)) rfl rfl rfl ?_; intro r29_5 hr29_5
  have qr29_5 := step_dn hr29_5 (by omega) (by omega)
  refine qG (qX ar214 rfl rfl (by first | decide | omega) (by first | decide | omega)) rfl rfl rfl ?_
  refine jK ?_
  refine yV ?_
  refine zZ 4 ty2 rfl rfl rfl rfl rfl rfl rfl rfl ?_
  refine qU ?_
  refine qQ ?_
  refine yX 10 mo (by kernel_rfl) ?_
  simp only [List.take_succ_cons, List.take_zero, List.drop_succ_cons, List.drop_zero]
  refine qG (qY rfl) rfl rfl rfl ?_
  refine qG (qY rfl) rfl rfl rfl ?_
  refine qG (opV_sub rfl rfl (by first | exact zG ⟨by omega, by omega⟩ | rfl)) rfl rfl rfl ?_
  refine qG (qX ar214 rfl rfl (by first | decide | omega) (by first | decide | omega)) rfl rfl rfl ?_
  refine qG (zJ 5 ty2 rfl rfl rfl) rfl rfl rfl ?_
  refine qG (qX ar214 rfl rfl (by first | decide | omega) (by first | decide | omega)) rfl rfl rfl ?_
  refine qG (zJ 5 ty2 rfl rfl rfl) rfl rfl rfl ?_
  refine qG (kZ rfl rfl (mul_in (by omega) (by omega))) rfl rfl rfl ?_
  refine yG (F := vI) (zY en179 rfl (fun w _ => fSU30 _ (in64_mul (by omega) (by omega)) w)) rfl rfl rfl ?_; intro r39_5 hr39_5
  have qr39_5 := step_up hr39_5 (by omega) (by omega)
  refine qG (qX ar214 rfl rfl (by first | decide | omega) (by first | decide | omega)) rfl rfl rfl ?_
  refine jK ?_
  refine yV ?_
  refine zZ 5 ty2 rfl rfl rfl rfl rfl rfl rfl rfl ?_
  refine qU ?_
  refine qV ?_
  refine qQ ?_
  refine qZ ?_
  refine qK (qY rfl) rfl rfl rfl ?_
  refine qK (yJ rfl rfl (by first | exact zG ⟨by omega, by omega⟩ | rfl)) rfl rfl rfl ?_
  refine qK (qW rfl) rfl rfl rfl ?_
  refine qU ?_
  refine zW ?_
  refine yZ ?_
  refine qJ ?_
  refine qJ ?_
  refine jY (ks := [0, 2, 3, 4, 5, 6]) rfl ?_
  refine qZ ?_
  refine qK (qY rfl) rfl rfl rfl ?_
  refine qK (yK rfl rfl) rfl rfl rfl ?_
  refine qU ?_
  refine qQ ?_
  refine zV rfl (by decide) ?_
  refine zU ?_
  refine qQ ?_
  refine qJ ?_
  refine zK ?_
  refine qJ ?_
  refine yX 10 mo (by kernel_rfl) ?_
  simp only [List.take_succ_cons, List.take_zero, List.drop_succ_cons, List.drop_zero]
  refine qG (qY rfl) rfl rfl rfl ?_
  refine qG (qY rfl) rfl rfl rfl ?_
  refine qG (opV_sub rfl rfl (by first | exact zG ⟨by omega, by omega⟩ | rfl)) rfl rfl rfl ?_
  refine qG (qX ar214 rfl rfl (by first | decide | omega) (by first | decide | omega)) rfl rfl rfl ?_
  refine qG (zJ 4 ty2 rfl rfl rfl) rfl rfl rfl ?_
  refine qG (qX ar214 rfl rfl (by first | decide | omega) (by first | decide | omega)) rfl rfl rfl ?_
  refine qG (zJ 4 ty2 rfl rfl rfl) rfl rfl rfl ?_
  refine qG (kZ rfl rfl (mul_in (by omega) (by omega))) rfl rfl rfl ?_
  refine yG (F := vI) (zY en178 rfl (fun w _ => fSD30 _ w)) rfl rfl rfl ?_; intro r29_6 hr29_6
  have qr29_6 := step_dn hr29_6 (by omega) (by omega)
  refine qG (qX ar214 rfl rfl (by first | decide | omega) (by first | decide | omega)) rfl rfl rfl ?_
  refine jK ?_
  refine yV ?_
  refine zZ 4 ty2 rfl rfl rfl rfl rfl rfl rfl rfl ?_
  refine qU ?_
  refine qQ ?_
  refine yX 10 mo (by kernel_rfl) ?_
  simp only [List.take_succ_cons, List.take_zero, List.drop_succ_cons, List.drop_zero]
  refine qG (qY rfl) rfl rfl rfl ?_
  refine qG (qY rfl) rfl rfl rfl ?_
  refine qG (opV_sub rfl rfl (by first | exact zG ⟨by omega, by omega⟩ | rfl)) rfl rfl rfl ?_
  refine qG (qX ar214 rfl rfl (by first | decide | omega) (by first | decide | omega)) rfl rfl rfl ?_
  refine qG (zJ 5 ty2 rfl rfl rfl) rfl rfl rfl ?_
  refine qG (qX ar214 rfl rfl (by first | decide | omega) (by first | decide | omega)) rfl rfl rfl ?_
  refine qG (zJ 5 ty2 rfl rfl rfl) rfl rfl rfl ?_
  refine qG (kZ rfl rfl (mul_in (by omega) (by omega))) rfl rfl rfl ?_
  refine yG (F := vI) (zY en179 rfl (fun w _ => fSU30 _ (in64_mul (by omega) (by omega)) w)) rfl rfl rfl ?_; intro r39_6 hr39_6
  have qr39_6 := step_up hr39_6 (by omega) (by omega)
  refine qG (qX ar214 rfl rfl (by first | decide | omega) (by first | decide | omega)) rfl rfl rfl ?_
  refine jK ?_
  refine yV ?_
  refine zZ 5 ty2 rfl rfl rfl rfl rfl rfl rfl rfl ?_
  refine qU ?_
  refine qV ?_
  refine qQ ?_
  refine qZ ?_
  refine qK (qY rfl) rfl rfl rfl ?_
  refine qK (yJ rfl rfl (by first | exact zG ⟨by omega, by omega⟩ | rfl)) rfl rfl rfl ?_
  refine qK (qW rfl) rfl rfl rfl ?_
  refine qU ?_
  refine zW ?_
  refine yZ ?_
  refine qJ ?_
  refine qJ ?_
  refine jY (ks := [0, 2, 3, 4, 5, 6]) rfl ?_
  refine qZ ?_
  refine qK (qY rfl) rfl rfl rfl ?_
  refine qK (yK rfl rfl) rfl rfl rfl ?_
  refine qU ?_
  refine qQ ?_
  refine zV rfl (by decide) ?_
  refine zU ?_
  refine qQ ?_
  refine qJ ?_
  refine zK ?_
  refine qJ ?_
  refine yX 10 mo (by kernel_rfl) ?_
  simp only [List.take_succ_cons, List.take_zero, List.drop_succ_cons, List.drop_zero]
  refine qG (qY rfl) rfl rfl rfl ?_
  refine qG (qY rfl) rfl rfl rfl ?_
  refine qG (opV_sub rfl rfl (by first | exact zG ⟨by omega, by omega⟩ | rfl)) rfl rfl rfl ?_
  refine qG (qX ar214 rfl rfl (by first | decide | omega) (by first | decide | omega)) rfl rfl rfl ?_
  refine qG (zJ 4 ty2 rfl rfl rfl) rfl rfl rfl ?_
  refine qG (qX ar214 rfl rfl (by first | decide | omega) (by first | decide | omega)) rfl rfl rfl ?_
  refine qG (zJ 4 ty2 rfl rfl rfl) rfl rfl rfl ?_
  refine qG (kZ rfl rfl (mul_in (by omega) (by omega))) rfl rfl rfl ?_
  refine yG (F := vI) (zY en178 rfl (fun w _ => fSD30 _ w)) rfl rfl rfl ?_; intro r29_7 hr29_7
  have qr29_7 := step_dn hr29_7 (by omega) (by omega)
  refine qG (qX ar214 rfl rfl (by first | decide | omega) (by first | decide | omega)) rfl rfl rfl ?_
  refine jK ?_
  refine yV ?_
  refine zZ 4 ty2 rfl rfl rfl rfl rfl rfl rfl rfl ?_
  refine qU ?_
  refine qQ ?_
  refine yX 10 mo (by kernel_rfl) ?_
  simp only [List.take_succ_cons, List.take_zero, List.drop_succ_cons, List.drop_zero]
  refine qG (qY rfl) rfl rfl rfl ?_
  refine qG (qY rfl) rfl rfl rfl ?_
  refine qG (opV_sub rfl rfl (by first | exact zG ⟨by omega, by omega⟩ | rfl)) rfl rfl rfl ?_
  refine qG (qX ar214 rfl rfl (by first | decide | omega) (by first | decide | omega)) rfl rfl rfl ?_
  refine qG (zJ 5 ty2 rfl rfl rfl) rfl rfl rfl ?_
  refine qG (qX ar214 rfl rfl (by first | decide | omega) (by first | decide | omega)) rfl rfl rfl ?_
  refine qG (zJ 5 ty2 rfl rfl rfl) rfl rfl rfl ?_
  refine qG (kZ rfl rfl (mul_in (by omega) (by omega))) rfl rfl rfl ?_
  refine yG (F := vI) (zY en179 rfl (fun w _ => fSU30 _ (in64_mul (by omega) (by omega)) w)) rfl rfl rfl ?_; intro r39_7 hr39_7
  have qr39_7 := step_up hr39_7 (by omega) (by omega)
  refine qG (qX ar214 rfl rfl (by first | decide | omega) (by first | decide | omega)) rfl rfl rfl ?_
  refine jK ?_
  refine yV ?_
  refine zZ 5 ty2 rfl rfl rfl rfl rfl rfl rfl rfl ?_
  refine qU ?_
  refine qV ?_
  refine qQ ?_
  refine qZ ?_
  refine qK (qY rfl) rfl rfl rfl ?_
  refine qK (yJ rfl rfl (by first | exact zG ⟨by omega, by omega⟩ | rfl)) rfl rfl rfl ?_
  refine qK (qW rfl) rfl rfl rfl ?_
  refine qU ?_
  refine zW ?_
  refine yZ ?_
  refine qJ ?_
  refine qJ ?_
  refine jY (ks := [0, 2, 3, 4, 5, 6]) rfl ?_
  refine qZ ?_
  refine qK (qY rfl) rfl rfl rfl ?_
  refine qK (yK rfl rfl) rfl rfl rfl ?_
  refine qU ?_
  refine qQ ?_
  refine zV rfl (by decide) ?_
  refine zU ?_
  refine qQ ?_
  refine qJ ?_
  refine zK ?_
  refine qJ ?_
  refine yX 10 mo (by kernel_rfl) ?_
  simp only [List.take_succ_cons, List.take_zero, List.drop_succ_cons, List.drop_zero]
  refine qG (qY rfl) rfl rfl rfl ?_
  refine qG (qY rfl) rfl rfl rfl ?_
  refine qG (opV_sub rfl rfl (by first | exact zG ⟨by omega, by omega⟩ | rfl)) rfl rfl rfl ?_
  refine qG (qX ar214 rfl rfl (by first | decide | omega) (by first | decide | omega)) rfl rfl rfl ?_
  refine qG (zJ 4 ty2 rfl rfl rfl) rfl rfl rfl ?_
  refine qG (qX ar214 rfl rfl (by first | decide | omega) (by first | decide | omega)) rfl rfl rfl ?_
  refine qG (zJ 4 ty2 rfl rfl rfl) rfl rfl rfl ?_
  refine qG (kZ rfl rfl (mul_in (by omega) (by omega))) rfl rfl rfl ?_
  refine yG (F := vI) (zY en178 rfl (fun w _ => fSD30 _ w)) rfl rfl rfl ?_; intro r29_8 hr29_8
  have qr29_8 := step_dn hr29_8 (by omega) (by omega)
  refine qG (qX ar214 rfl rfl (by first | decide | omega) (by first | decide | omega)) rfl rfl rfl ?_
  refine jK ?_
  refine yV ?_
  refine zZ 4 ty2 rfl rfl rfl rfl rfl rfl rfl rfl ?_
  refine qU ?_
  refine qQ ?_
  refine yX 10 mo (by kernel_rfl) ?_
  simp only [List.take_succ_cons, List.take_zero, List.drop_succ_cons, List.drop_zero]
  refine qG (qY rfl) rfl rfl rfl ?_
  refine qG (qY rfl) rfl rfl rfl ?_
  refine qG (opV_sub rfl rfl (by first | exact zG ⟨by omega, by omega⟩ | rfl)) rfl rfl rfl ?_
  refine qG (qX ar214 rfl rfl (by first | decide | omega) (by first | decide | omega)) rfl rfl rfl ?_
  refine qG (zJ 5 ty2 rfl rfl rfl) rfl rfl rfl ?_
  refine qG (qX ar214 rfl rfl (by first | decide | omega) (by first | decide | omega)) rfl rfl rfl ?_
  refine qG (zJ 5 ty2 rfl rfl rfl) rfl rfl rfl ?_
  refine qG (kZ rfl rfl (mul_in (by omega) (by omega))) rfl rfl rfl ?_
  refine yG (F := vI) (zY en179 rfl (fun w _ => fSU30 _ (in64_mul (by omega) (by omega)) w)) rfl rfl rfl ?_; intro r39_8 hr39_8
  have qr39_8 := step_up hr39_8 (by omega) (by omega)
  refine qG (qX ar214 rfl rfl (by first | decide | omega) (by first | decide | omega)) rfl rfl rfl ?_
  refine jK ?_
  refine yV ?_
  refine zZ 5 ty2 rfl rfl rfl rfl rfl rfl rfl rfl ?_
  refine qU ?_
  refine qV ?_
  refine qQ ?_
  refine qZ ?_
  refine qK (qY rfl) rfl rfl rfl ?_
  refine qK (yJ rfl rfl (by first | exact zG ⟨by omega, by omega⟩ | rfl)) rfl rfl rfl ?_
  refine qK (qW rfl) rfl rfl rfl ?_
  refine qU ?_
  refine zW ?_
  refine yZ ?_
  refine qJ ?_
  refine qJ ?_
  refine jY (ks := [0, 2, 3, 4, 5, 6]) rfl ?_
  refine qZ ?_
  refine qK (qY rfl) rfl rfl rfl ?_
  refine qK (yK rfl rfl) rfl rfl rfl ?_
  refine qU ?_
  refine qQ ?_
  refine zV rfl (by decide) ?_
  refine zU ?_
  refine qQ ?_
  refine qJ ?_
  refine zK ?_
  refine qJ ?_
  refine yX 10 mo (by kernel_rfl) ?_
  simp only [List.take_succ_cons, List.take_zero, List.drop_succ_cons, List.drop_zero]
  refine qG (qY rfl) rfl rfl rfl ?_
  refine qG (qY rfl) rfl rfl rfl ?_
  refine qG (opV_sub rfl rfl (by first | exact zG ⟨by omega, by omega⟩ | rfl)) rfl rfl rfl ?_
  refine qG (qX ar214 rfl rfl (by first | decide | omega) (by first | decide | omega)) rfl rfl rfl ?_
  refine qG (zJ 4 ty2 rfl rfl rfl) rfl rfl rfl ?_
  refine qG (qX ar214 rfl rfl (by first | decide | omega) (by first | decide | omega)) rfl rfl rfl ?_
  refine qG (zJ 4 ty2 rfl rfl rfl) rfl rfl rfl ?_
  refine qG (kZ rfl rfl (mul_in (by omega) (by omega))) rfl rfl rfl ?_
  refine yG (F := vI) (zY en178 rfl (fun w _ => fSD30 _ w)) rfl rfl rfl ?_; intro r29_9 hr29_9
  have qr29_9 := step_dn hr29_9 (by omega) (by omega)
  refine qG (qX ar214 rfl rfl (by first | decide | omega) (by first | decide | omega)) rfl rfl rfl ?_
  refine jK ?_
  refine yV ?_
  refine zZ 4 ty2 rfl rfl rfl rfl rfl rfl rfl rfl ?_
  refine qU ?_
  refine qQ ?_
  refine yX 10 mo (by kernel_rfl) ?_
  simp only [List.take_succ_cons, List.take_zero, List.drop_succ_cons, List.drop_zero]
  refine qG (qY rfl) rfl rfl rfl ?_
  refine qG (qY rfl) rfl rfl rfl ?_
  refine qG (opV_sub rfl rfl (by first | exact zG ⟨by omega, by omega⟩ | rfl)) rfl rfl rfl ?_
  refine qG (qX ar214 rfl rfl (by first | decide | omega) (by first | decide | omega)) rfl rfl rfl ?_
  refine qG (zJ 5 ty2 rfl rfl rfl) rfl rfl rfl ?_
  refine qG (qX ar214 rfl rfl (by first | decide | omega) (by first | decide | omega)) rfl rfl rfl ?_
  refine qG (zJ 5 ty2 rfl rfl rfl) rfl rfl rfl ?_
  refine qG (kZ rfl rfl (mul_in (by omega) (by omega))) rfl rfl rfl ?_
  refine yG (F := vI) (zY en179 rfl (fun w _ => fSU30 _ (in64_mul (by omega) (by omega)) w)) rfl rfl rfl ?_; intro r39_9 hr39_9
  have qr39_9 := step_up hr39_9 (by omega) (by omega)
  refine qG (qX ar214 rfl rfl (by first | decide | omega) (by first | decide | omega)) rfl rfl rfl ?_
  refine jK ?_
  refine yV ?_
  refine zZ 5 ty2 rfl rfl rfl rfl rfl rfl rfl rfl ?_
  refine qU ?_
  refine qV ?_
  refine qQ ?_
  refine qZ ?_
  refine qK (qY rfl) rfl rfl rfl ?_
  refine qK (yJ rfl rfl (by first | exact zG ⟨by omega, by omega⟩ | rfl)) rfl rfl rfl ?_
  refine qK (qW rfl) rfl rfl rfl ?_
  refine qU ?_
  refine zW ?_
  refine yZ ?_
  refine qJ ?_
  refine qJ ?_
  refine jY (ks := [0, 2, 3, 4, 5, 6]) rfl ?_
  refine qZ ?_
  refine qK (qY rfl) rfl rfl rfl ?_
  refine qK (yK rfl rfl) rfl rfl rfl ?_
  refine qU ?_
  refine qQ ?_
  refine jW rfl (by decide) ?_
  refine kH ?_
  refine zX ?_
  refine zX ?_
  refine yH ?_
  refine qQ ?_
  refine qJ ?_
  refine doC_perm [[0, 1, 2, 3], [0, 2, 1, 3], [1, 0, 2, 3]] mo (by kernel_rfl) (by kernel_rfl) (by kernel_rfl) ?_
  intro p hp
  simp only [List.mem_cons, List.not_mem_nil, or_false] at hp
  rcases hp with rfl | rfl | rfl
  ·
    show DoL _ _ _ _ _ [_, _, _, _] _ _
    refine qK (zQ 4 ty214 rfl rfl rfl) rfl rfl rfl ?_
    refine qK (zQ 5 ty214 rfl rfl rfl) rfl rfl rfl ?_
    refine zZ 2 ty214 rfl rfl rfl rfl rfl rfl rfl rfl ?_
    refine zZ 3 ty214 rfl rfl rfl rfl rfl rfl rfl rfl ?_
    refine qU ?_
    refine qQ ?_
    refine yU ?_
    refine zH (rs := [.cell 2 214, .cell 3 214]) rfl (resC (yY 2 rfl rfl ty214 rfl) (resC (yY 3 rfl rfl ty214 rfl) (resN))) ?_
    subst_vars; rfl
  ·
    show DoL _ _ _ _ _ [_, _, _, _] _ _
    refine qK (zQ 4 ty214 rfl rfl rfl) rfl rfl rfl ?_
    refine zZ 2 ty214 rfl rfl rfl rfl rfl rfl rfl rfl ?_
    refine qK (zQ 5 ty214 rfl rfl rfl) rfl rfl rfl ?_
    refine zZ 3 ty214 rfl rfl rfl rfl rfl rfl rfl rfl ?_
    refine qU ?_
    refine qQ ?_
    refine yU ?_
    refine zH (rs := [.cell 2 214, .cell 3 214]) rfl (resC (yY 2 rfl rfl ty214 rfl) (resC (yY 3 rfl rfl ty214 rfl) (resN))) ?_
    subst_vars; rfl
  ·
    show DoL _ _ _ _ _ [_, _, _, _] _ _
    refine qK (zQ 5 ty214 rfl rfl rfl) rfl rfl rfl ?_
    refine qK (zQ 4 ty214 rfl rfl rfl) rfl rfl rfl ?_
    refine zZ 2 ty214 rfl rfl rfl rfl rfl rfl rfl rfl ?_
    refine zZ 3 ty214 rfl rfl rfl rfl rfl rfl rfl rfl ?_
    refine qU ?_
    refine qQ ?_
    refine yU ?_
    refine zH (rs := [.cell 2 214, .cell 3 214]) rfl (resC (yY 2 rfl rfl ty214 rfl) (resC (yY 3 rfl rfl ty214 rfl) (resN))) ?_
    subst_vars; rfl
theorem alt4  (b : Nat) (x1 x2 x3 x4 : Int) (h1 : 0 ≤ x1 ∧ x1 ≤ 1073741825) (h2 : 0 ≤ x2 ∧ x2 ≤ 1073741825) (h3 : 0 ≤ x3 ∧ x3 ≤ 1073741825) (h4 : 0 ≤ x4 ∧ x4 ≤ 1073741825) (w : World) (hb : w.heap[b]? = some (.cells [.int .i64 x1, .int .i64 x2, .int .i64 x3, .int .i64 x4].toArray 2)) : Calls Tryz.prog 208 [.slice (some ⟨b, 0, none⟩) 4 4].toArray w (Rets (vI (x1 - x2 + x3 - x4)) (w)) := by
  refine yQ (n := 22) Tryz.func208 rfl rfl rfl ?_
  refine qJ ?_
  refine qZ ?_
  refine qK (qW rfl) rfl rfl rfl ?_
  refine qU ?_
  refine qQ ?_
  refine qJ ?_
  refine qZ ?_
  refine qK (qW rfl) rfl rfl rfl ?_
  refine qK (qW rfl) rfl rfl rfl ?_
  refine qU ?_
  refine qQ ?_
  refine qJ ?_
  refine qJ ?_
  refine qZ ?_
  refine qK (qY rfl) rfl rfl rfl ?_
  refine qK (opV_len_slice sl48 rfl) rfl rfl rfl ?_
  refine qK (qY rfl) rfl rfl rfl ?_
  refine qU ?_
  refine qQ ?_
  refine zK ?_
  refine kX 5 ?_
  refine yZ ?_
  refine qJ ?_
  refine jY (ks := [2, 3, 4, 7, 8, 9]) rfl ?_
  refine qZ ?_
  refine qK (yK rfl rfl) rfl rfl rfl ?_
  refine qU ?_
  refine qQ ?_
  refine qJ ?_
  refine zV rfl (by decide) ?_
  refine zU ?_
  refine qQ ?_
  refine qJ ?_
  refine zK ?_
  refine qJ ?_
  refine qZ ?_
  refine qK (opV_indexSlice sl48 rfl rfl (by first | decide | omega) (by first | decide | omega)) rfl rfl rfl ?_
  refine qK (opV_load1_old ty2 rfl (kW hb) (by rw [cell_at hb]; rfl)) rfl rfl rfl ?_
  refine qK (qW rfl) rfl rfl rfl ?_
  refine qU ?_
  refine qQ ?_
  refine qJ ?_
  refine qZ ?_
  refine qK (qY rfl) rfl rfl rfl ?_
  refine qK (qY rfl) rfl rfl rfl ?_
  refine qK (qY rfl) rfl rfl rfl ?_
  refine qK (kZ rfl rfl (by first | exact zG ⟨by omega, by omega⟩ | rfl)) rfl rfl rfl ?_
  refine qK (yJ rfl rfl (by first | exact zG ⟨by omega, by omega⟩ | rfl)) rfl rfl rfl ?_
  refine qK (qW rfl) rfl rfl rfl ?_
  refine qU ?_
  refine qQ ?_
  refine qZ ?_
  refine qK (qY rfl) rfl rfl rfl ?_
  refine qK (opV_neg rfl (by first | exact neg_in ⟨by omega, by omega⟩ | rfl)) rfl rfl rfl ?_
  refine qK (qW rfl) rfl rfl rfl ?_
  refine qU ?_
  refine qV ?_
  refine qQ ?_
  refine qZ ?_
  refine qK (yJ rfl rfl (by first | exact zG ⟨by omega, by omega⟩ | rfl)) rfl rfl rfl ?_
  refine qK (qY rfl) rfl rfl rfl ?_
  refine qU ?_
  refine zW ?_
  refine yZ ?_
  refine qJ ?_
  refine jY (ks := [2, 3, 4, 7, 8, 9]) rfl ?_
  refine qZ ?_
  refine qK (yK rfl rfl) rfl rfl rfl ?_
  refine qU ?_
  refine qQ ?_
  refine qJ ?_
  refine zV rfl (by decide) ?_
  refine zU ?_
  refine qQ ?_
  refine qJ ?_
  refine zK ?_
  refine qJ ?_
  refine qZ ?_
  refine qK (opV_indexSlice sl48 rfl rfl (by first | decide | omega) (by first | decide | omega)) rfl rfl rfl ?_
  refine qK (opV_load1_old ty2 rfl (kW hb) (by rw [cell_at hb]; rfl)) rfl rfl rfl ?_
  refine qK (qW rfl) rfl rfl rfl ?_
  refine qU ?_
  refine qQ ?_
  refine qJ ?_
  refine qZ ?_
  refine qK (qY rfl) rfl rfl rfl ?_
  refine qK (qY rfl) rfl rfl rfl ?_
  refine qK (qY rfl) rfl rfl rfl ?_
  refine qK (kZ rfl rfl (by first | exact zG ⟨by omega, by omega⟩ | rfl)) rfl rfl rfl ?_
  refine qK (yJ rfl rfl (by first | exact zG ⟨by omega, by omega⟩ | rfl)) rfl rfl rfl ?_
  refine qK (qW rfl) rfl rfl rfl ?_
  refine qU ?_
  refine qQ ?_
  refine qZ ?_
  refine qK (qY rfl) rfl rfl rfl ?_
  refine qK (opV_neg rfl (by first | exact neg_in ⟨by omega, by omega⟩ | rfl)) rfl rfl rfl ?_
  refine qK (qW rfl) rfl rfl rfl ?_
  refine qU ?_
  refine qV ?_
  refine qQ ?_
  refine qZ ?_
  refine qK (yJ rfl rfl (by first | exact zG ⟨by omega, by omega⟩ | rfl)) rfl rfl rfl ?_
  refine qK (qY rfl) rfl rfl rfl ?_
  refine qU ?_
  refine zW ?_
  refine yZ ?_
  refine qJ ?_
  refine jY (ks := [2, 3, 4, 7, 8, 9]) rfl ?_
  refine qZ ?_
  refine qK (yK rfl rfl) rfl rfl rfl ?_
  refine qU ?_
  refine qQ ?_
  refine qJ ?_
  refine zV rfl (by decide) ?_
  refine zU ?_
  refine qQ ?_
  refine qJ ?_
  refine zK ?_
  refine qJ ?_
  refine qZ ?_
  refine qK (opV_indexSlice sl48 rfl rfl (by first | decide | omega) (by first | decide | omega)) rfl rfl rfl ?_
  refine qK (opV_load1_old ty2 rfl (kW hb) (by rw [cell_at hb]; rfl)) rfl rfl rfl ?_
  refine qK (qW rfl) rfl rfl rfl ?_
  refine qU ?_
  refine qQ ?_
  refine qJ ?_
  refine qZ ?_
  refine qK (qY rfl) rfl rfl rfl ?_
  refine qK (qY rfl) rfl rfl rfl ?_
  refine qK (qY rfl) rfl rfl rfl ?_
  refine qK (kZ rfl rfl (by first | exact zG ⟨by omega, by omega⟩ | rfl)) rfl rfl rfl ?_
  refine qK (yJ rfl rfl (by first | exact zG ⟨by omega, by omega⟩ | rfl)) rfl rfl rfl ?_
  refine qK (qW rfl) rfl rfl rfl ?_
  refine qU ?_
  refine qQ ?_
  refine qZ ?_
  refine qK (qY rfl) rfl rfl rfl ?_
  refine qK (opV_neg rfl (by first | exact neg_in ⟨by omega, by omega⟩ | rfl)) rfl rfl rfl ?_
  refine qK (qW rfl) rfl rfl rfl ?_
  refine qU ?_
  refine qV ?_
  refine qQ ?_
  refine qZ ?_
  refine qK (yJ rfl rfl (by first | exact zG ⟨by omega, by omega⟩ | rfl)) rfl rfl rfl ?_
  refine qK (qY rfl) rfl rfl rfl ?_
  refine qU ?_
  refine zW ?_
  refine yZ ?_
  refine qJ ?_
  refine jY (ks := [2, 3, 4, 7, 8, 9]) rfl ?_
  refine qZ ?_
  refine qK (yK rfl rfl) rfl rfl rfl ?_
  refine qU ?_
  refine qQ ?_
  refine qJ ?_
  refine zV rfl (by decide) ?_
  refine zU ?_
  refine qQ ?_
  refine qJ ?_
  refine zK ?_
  refine qJ ?_
  refine qZ ?_
  refine qK (opV_indexSlice sl48 rfl rfl (by first | decide | omega) (by first | decide | omega)) rfl rfl rfl ?_
  refine qK (opV_load1_old ty2 rfl (kW hb) (by rw [cell_at hb]; rfl)) rfl rfl rfl ?_
  refine qK (qW rfl) rfl rfl rfl ?_
  refine qU ?_
  refine qQ ?_
  refine qJ ?_
  refine qZ ?_
  refine qK (qY rfl) rfl rfl rfl ?_
  refine qK (qY rfl) rfl rfl rfl ?_
  refine qK (qY rfl) rfl rfl rfl ?_
  refine qK (kZ rfl rfl (by first | exact zG ⟨by omega, by omega⟩ | rfl)) rfl rfl rfl ?_
  refine qK (yJ rfl rfl (by first | exact zG ⟨by omega, by omega⟩ | rfl)) rfl rfl rfl ?_
  refine qK (qW rfl) rfl rfl rfl ?_
  refine qU ?_
  refine qQ ?_
  refine qZ ?_
  refine qK (qY rfl) rfl rfl rfl ?_
  refine qK (opV_neg rfl (by first | exact neg_in ⟨by omega, by omega⟩ | rfl)) rfl rfl rfl ?_
  refine qK (qW rfl) rfl rfl rfl ?_
  refine qU ?_
  refine qV ?_
  refine qQ ?_
  refine qZ ?_
  refine qK (yJ rfl rfl (by first | exact zG ⟨by omega, by omega⟩ | rfl)) rfl rfl rfl ?_
  refine qK (qY rfl) rfl rfl rfl ?_
  refine qU ?_
  refine zW ?_
  refine yZ ?_
  refine qJ ?_
  refine jY (ks := [2, 3, 4, 7, 8, 9]) rfl ?_
  refine qZ ?_
  refine qK (yK rfl rfl) rfl rfl rfl ?_
  refine qU ?_
  refine qQ ?_
  refine qJ ?_
  refine jW rfl (by decide) ?_
  refine kH ?_
  refine zX ?_
  refine zX ?_
  refine yH ?_
  refine qQ ?_
  refine qJ ?_
  refine qZ ?_
  refine qK (qY rfl) rfl rfl rfl ?_
  refine qK (qW rfl) rfl rfl rfl ?_
  refine qU ?_
  refine qQ ?_
  refine yU ?_
  refine zH (rs := [.tmp 2]) rfl (resC (jU rfl) (resN)) (congrArg (vI) (?_ : _ = x1 - x2 + x3 - x4))
  omega
theorem alt5  (b : Nat) (x1 x2 x3 x4 x5 : Int) (h1 : 0 ≤ x1 ∧ x1 ≤ 1073741825) (h2 : 0 ≤ x2 ∧ x2 ≤ 1073741825) (h3 : 0 ≤ x3 ∧ x3 ≤ 1073741825) (h4 : 0 ≤ x4 ∧ x4 ≤ 1073741825) (h5 : 0 ≤ x5 ∧ x5 ≤ 1073741825) (w : World) (hb : w.heap[b]? = some (.cells [.int .i64 x1, .int .i64 x2, .int .i64 x3, .int .i64 x4, .int .i64 x5].toArray 2)) : Calls Tryz.prog 208 [.slice (some ⟨b, 0, none⟩) 5 5].toArray w (Rets (vI (x1 - x2 + x3 - x4 + x5)) (w)) := by
  refine yQ (n := 22) Tryz.func208 rfl rfl rfl ?_
  refine qJ ?_
  refine qZ ?_
  refine qK (qW rfl) rfl rfl rfl ?_
  refine qU ?_
  refine qQ ?_
  refine qJ ?_
  refine qZ ?_
  refine qK (qW rfl) rfl rfl rfl ?_
  refine qK (qW rfl) rfl rfl rfl ?_
  refine qU ?_
  refine qQ ?_
  refine qJ ?_
  refine qJ ?_
  refine qZ ?_
  refine qK (qY rfl) rfl rfl rfl ?_
  refine qK (opV_len_slice sl48 rfl) rfl rfl rfl ?_
  refine qK (qY rfl) rfl rfl rfl ?_
  refine qU ?_
  refine qQ ?_
  refine zK ?_
  refine kX 6 ?_
  refine yZ ?_
  refine qJ ?_
  refine jY (ks := [2, 3, 4, 7, 8, 9]) rfl ?_
  refine qZ ?_
  refine qK (yK rfl rfl) rfl rfl rfl ?_
  refine qU ?_
  refine qQ ?_
  refine qJ ?_
  refine zV rfl (by decide) ?_
  refine zU ?_
  refine qQ ?_
  refine qJ ?_
  refine zK ?_
  refine qJ ?_
  refine qZ ?_
  refine qK (opV_indexSlice sl48 rfl rfl (by first | decide | omega) (by first | decide | omega)) rfl rfl rfl ?_
  refine qK (opV_load1_old ty2 rfl (kW hb) (by rw [cell_at hb]; rfl)) rfl rfl rfl ?_
  refine qK (qW rfl) rfl rfl rfl ?_
  refine qU ?_
  refine qQ ?_
  refine qJ ?_
  refine qZ ?_
  refine qK (qY rfl) rfl rfl rfl ?_
  refine qK (qY rfl) rfl rfl rfl ?_
  refine qK (qY rfl) rfl rfl rfl ?_
  refine qK (kZ rfl rfl (by first | exact zG ⟨by omega, by omega⟩ | rfl)) rfl rfl rfl ?_
  refine qK (yJ rfl rfl (by first | exact zG ⟨by omega, by omega⟩ | rfl)) rfl rfl rfl ?_
  refine qK (qW rfl) rfl rfl rfl ?_
  refine qU ?_
  refine qQ ?_
  refine qZ ?_
  refine qK (qY rfl) rfl rfl rfl ?_
  refine qK (opV_neg rfl (by first | exact neg_in ⟨by omega, by omega⟩ | rfl)) rfl rfl rfl ?_
  refine qK (qW rfl) rfl rfl rfl ?_
  refine qU ?_
  refine qV ?_
  refine qQ ?_
  refine qZ ?_
  refine qK (yJ rfl rfl (by first | exact zG ⟨by omega, by omega⟩ | rfl)) rfl rfl rfl ?_
  refine qK (qY rfl) rfl rfl rfl ?_
  refine qU ?_
  refine zW ?_
  refine yZ ?_
  refine qJ ?_
  refine jY (ks := [2, 3, 4, 7, 8, 9]) rfl ?_
  refine qZ ?_
  refine qK (yK rfl rfl) rfl rfl rfl ?_
  refine qU ?_
  refine qQ ?_
  refine qJ ?_
  refine zV rfl (by decide) ?_
  refine zU ?_
  refine qQ ?_
  refine qJ ?_
  refine zK ?_
  refine qJ ?_
  refine qZ ?_
  refine qK (opV_indexSlice sl48 rfl rfl (by first | decide | omega) (by first | decide | omega)) rfl rfl rfl ?_
  refine qK (opV_load1_old ty2 rfl (kW hb) (by rw [cell_at hb]; rfl)) rfl rfl rfl ?_
  refine qK (qW rfl) rfl rfl rfl ?_
  refine qU ?_
  refine qQ ?_
  refine qJ ?_
  refine qZ ?_
  refine qK (qY rfl) rfl rfl rfl ?_
  refine qK (qY rfl) rfl rfl rfl ?_
  refine qK (qY rfl) rfl rfl rfl ?_
  refine qK (kZ rfl rfl (by first | exact zG ⟨by omega, by omega⟩ | rfl)) rfl rfl rfl ?_
  refine qK (yJ rfl rfl (by first | exact zG ⟨by omega, by omega⟩ | rfl)) rfl rfl rfl ?_
  refine qK (qW rfl) rfl rfl rfl ?_
  refine qU ?_
  refine qQ ?_
  refine qZ ?_
  refine qK (qY rfl) rfl rfl rfl ?_
  refine qK (opV_neg rfl (by first | exact neg_in ⟨by omega, by omega⟩ | rfl)) rfl rfl rfl ?_
  refine qK (qW rfl) rfl rfl rfl ?_
  refine qU ?_
  refine qV ?_
  refine qQ ?_
  refine qZ ?_
  refine qK (yJ rfl rfl (by first | exact zG ⟨by omega, by omega⟩ | rfl)) rfl rfl rfl ?_
  refine qK (qY rfl) rfl rfl rfl ?_
  refine qU ?_
  refine zW ?_
  refine yZ ?_
  refine qJ ?_
  refine jY (ks := [2, 3, 4, 7, 8, 9]) rfl ?_
  refine qZ ?_
  refine qK (yK rfl rfl) rfl rfl rfl ?_
  refine qU ?_
  refine qQ ?_
  refine qJ ?_
  refine zV rfl (by decide) ?_
  refine zU ?_
  refine qQ ?_
  refine qJ ?_
  refine zK ?_
  refine qJ ?_
  refine qZ ?_
  refine qK (opV_indexSlice sl48 rfl rfl (by first | decide | omega) (by first | decide | omega)) rfl rfl rfl ?_
  refine qK (opV_load1_old ty2 rfl (kW hb) (by rw [cell_at hb]; rfl)) rfl rfl rfl ?_
  refine qK (qW rfl) rfl rfl rfl ?_
  refine qU ?_
  refine qQ ?_
  refine qJ ?_
  refine qZ ?_
  refine qK (qY rfl) rfl rfl rfl ?_
  refine qK (qY rfl) rfl rfl rfl ?_
  refine qK (qY rfl) rfl rfl rfl ?_
  refine qK (kZ rfl rfl (by first | exact zG ⟨by omega, by omega⟩ | rfl)) rfl rfl rfl ?_
  refine qK (yJ rfl rfl (by first | exact zG ⟨by omega, by omega⟩ | rfl)) rfl rfl rfl ?_
  refine qK (qW rfl) rfl rfl rfl ?_
  refine qU ?_
  refine qQ ?_
  refine qZ ?_
  refine qK (qY rfl) rfl rfl rfl ?_
  refine qK (opV_neg rfl (by first | exact neg_in ⟨by omega, by omega⟩ | rfl)) rfl rfl rfl ?_
  refine qK (qW rfl) rfl rfl rfl ?_
  refine qU ?_
  refine qV ?_
  refine qQ ?_
  refine qZ ?_
  refine qK (yJ rfl rfl (by first | exact zG ⟨by omega, by omega⟩ | rfl)) rfl rfl rfl ?_
  refine qK (qY rfl) rfl rfl rfl ?_
  refine qU ?_
  refine zW ?_
  refine yZ ?_
  refine qJ ?_
  refine jY (ks := [2, 3, 4, 7, 8, 9]) rfl ?_
  refine qZ ?_
  refine qK (yK rfl rfl) rfl rfl rfl ?_
  refine qU ?_
  refine qQ ?_
  refine qJ ?_
  refine zV rfl (by decide) ?_
  refine zU ?_
  refine qQ ?_
  refine qJ ?_
  refine zK ?_
  refine qJ ?_
  refine qZ ?_
  refine qK (opV_indexSlice sl48 rfl rfl (by first | decide | omega) (by first | decide | omega)) rfl rfl rfl ?_
  refine qK (opV_load1_old ty2 rfl (kW hb) (by rw [cell_at hb]; rfl)) rfl rfl rfl ?_
  refine qK (qW rfl) rfl rfl rfl ?_
  refine qU ?_
  refine qQ ?_
  refine qJ ?_
  refine qZ ?_
  refine qK (qY rfl) rfl rfl rfl ?_
  refine qK (qY rfl) rfl rfl rfl ?_
  refine qK (qY rfl) rfl rfl rfl ?_
  refine qK (kZ rfl rfl (by first | exact zG ⟨by omega, by omega⟩ | rfl)) rfl rfl rfl ?_
  refine qK (yJ rfl rfl (by first | exact zG ⟨by omega, by omega⟩ | rfl)) rfl rfl rfl ?_
  refine qK (qW rfl) rfl rfl rfl ?_
  refine qU ?_
  refine qQ ?_
  refine qZ ?_
  refine qK (qY rfl) rfl rfl rfl ?_
  refine qK (opV_neg rfl (by first | exact neg_in ⟨by omega, by omega⟩ | rfl)) rfl rfl rfl ?_
  refine qK (qW rfl) rfl rfl rfl ?_
  refine qU ?_
  refine qV ?_
  refine qQ ?_
  refine qZ ?_
  refine qK (yJ rfl rfl (by first | exact zG ⟨by omega, by omega⟩ | rfl)) rfl rfl rfl ?_
  refine qK (qY rfl) rfl rfl rfl ?_
  refine qU ?_
  refine zW ?_
  refine yZ ?_
  refine qJ ?_
  refine jY (ks := [2, 3, 4, 7, 8, 9]) rfl ?_
  refine qZ ?_
  refine qK (yK rfl rfl) rfl rfl rfl ?_
  refine qU ?_
  refine qQ ?_
  refine qJ ?_
  refine zV rfl (by decide) ?_
  refine zU ?_
  refine qQ ?_
  refine qJ ?_
  refine zK ?_
  refine qJ ?_
  refine qZ ?_
  refine qK (opV_indexSlice sl48 rfl rfl (by first | decide | omega) (by first | decide | omega)) rfl rfl rfl ?_
  refine qK (opV_load1_old ty2 rfl (kW hb) (by rw [cell_at hb]; rfl)) rfl rfl rfl ?_
  refine qK (qW rfl) rfl rfl rfl ?_
  refine qU ?_
  refine qQ ?_
  refine qJ ?_
  refine qZ ?_
  refine qK (qY rfl) rfl rfl rfl ?_
  refine qK (qY rfl) rfl rfl rfl ?_
  refine qK (qY rfl) rfl rfl rfl ?_
  refine qK (kZ rfl rfl (by first | exact zG ⟨by omega, by omega⟩ | rfl)) rfl rfl rfl ?_
  refine qK (yJ rfl rfl (by first | exact zG ⟨by omega, by omega⟩ | rfl)) rfl rfl rfl ?_
  refine qK (qW rfl) rfl rfl rfl ?_
  refine qU ?_
  refine qQ ?_
  refine qZ ?_
  refine qK (qY rfl) rfl rfl rfl ?_
  refine qK (opV_neg rfl (by first | exact neg_in ⟨by omega, by omega⟩ | rfl)) rfl rfl rfl ?_
  refine qK (qW rfl) rfl rfl rfl ?_
  refine qU ?_
  refine qV ?_
  refine qQ ?_
  refine qZ ?_
  refine qK (yJ rfl rfl (by first | exact zG ⟨by omega, by omega⟩ | rfl)) rfl rfl rfl ?_
  refine qK (qY rfl) rfl rfl rfl ?_
  refine qU ?_
  refine zW ?_
  refine yZ ?_
  refine qJ ?_
  refine jY (ks := [2, 3, 4, 7, 8, 9]) rfl ?_
  refine qZ ?_
  refine qK (yK rfl rfl) rfl rfl rfl ?_
  refine qU ?_
  refine qQ ?_
  refine qJ ?_
  refine jW rfl (by decide) ?_
  refine kH ?_
  refine zX ?_
  refine zX ?_
  refine yH ?_
  refine qQ ?_
  refine qJ ?_
  refine qZ ?_
  refine qK (qY rfl) rfl rfl rfl ?_
  refine qK (qW rfl) rfl rfl rfl ?_
  refine qU ?_
  refine qQ ?_
  refine yU ?_
  refine zH (rs := [.tmp 2]) rfl (resC (jU rfl) (resN)) (congrArg (vI) (?_ : _ = x1 - x2 + x3 - x4 + x5))
  omega
theorem alt6  (b : Nat) (x1 x2 x3 x4 x5 x6 : Int) (h1 : 0 ≤ x1 ∧ x1 ≤ 1073741825) (h2 : 0 ≤ x2 ∧ x2 ≤ 1073741825) (h3 : 0 ≤ x3 ∧ x3 ≤ 1073741825) (h4 : 0 ≤ x4 ∧ x4 ≤ 1073741825) (h5 : 0 ≤ x5 ∧ x5 ≤ 1073741825) (h6 : 0 ≤ x6 ∧ x6 ≤ 1073741825) (w : World) (hb : w.heap[b]? = some (.cells [.int .i64 x1, .int .i64 x2, .int .i64 x3, .int .i64 x4, .int .i64 x5, .int .i64 x6].toArray 2)) : Calls Tryz.prog 208 [.slice (some ⟨b, 0, none⟩) 6 6].toArray w (Rets (vI (x1 - x2 + x3 - x4 + x5 - x6)) (w)) := by
  refine yQ (n := 22) Tryz.func208 rfl rfl rfl ?_
  refine qJ ?_
  refine qZ ?_
  refine qK (qW rfl) rfl rfl rfl ?_
  refine qU ?_
  refine qQ ?_
  refine qJ ?_
  refine qZ ?_
  refine qK (qW rfl) rfl rfl rfl ?_
  refine qK (qW rfl) rfl rfl rfl ?_
  refine qU ?_
  refine qQ ?_
  refine qJ ?_
  refine qJ ?_
  refine qZ ?_
  refine qK (qY rfl) rfl rfl rfl ?_
  refine qK (opV_len_slice sl48 rfl) rfl rfl rfl ?_
  refine qK (qY rfl) rfl rfl rfl ?_
  refine qU ?_
  refine qQ ?_
  refine zK ?_
  refine kX 7 ?_
  refine yZ ?_
  refine qJ ?_
  refine jY (ks := [2, 3, 4, 7, 8, 9]) rfl ?_
  refine qZ ?_
  refine qK (yK rfl rfl) rfl rfl rfl ?_
  refine qU ?_
  refine qQ ?_
  refine qJ ?_
  refine zV rfl (by decide) ?_
  refine zU ?_
  refine qQ ?_
  refine qJ ?_
  refine zK ?_
  refine qJ ?_
  refine qZ ?_
  refine qK (opV_indexSlice sl48 rfl rfl (by first | decide | omega) (by first | decide | omega)) rfl rfl rfl ?_
  refine qK (opV_load1_old ty2 rfl (kW hb) (by rw [cell_at hb]; rfl)) rfl rfl rfl ?_
  refine qK (qW rfl) rfl rfl rfl ?_
  refine qU ?_
  refine qQ ?_
  refine qJ ?_
  refine qZ ?_
  refine qK (qY rfl) rfl rfl rfl ?_
  refine qK (qY rfl) rfl rfl rfl ?_
  refine qK (qY rfl) rfl rfl rfl ?_
  refine qK (kZ rfl rfl (by first | exact zG ⟨by omega, by omega⟩ | rfl)) rfl rfl rfl ?_
  refine qK (yJ rfl rfl (by first | exact zG ⟨by omega, by omega⟩ | rfl)) rfl rfl rfl ?_
  refine qK (qW rfl) rfl rfl rfl ?_
  refine qU ?_
  refine qQ ?_
  refine qZ ?_
  refine qK (qY rfl) rfl rfl rfl ?_
  refine qK (opV_neg rfl (by first | exact neg_in ⟨by omega, by omega⟩ | rfl)) rfl rfl rfl ?_
  refine qK (qW rfl) rfl rfl rfl ?_
  refine qU ?_
  refine qV ?_
  refine qQ ?_
  refine qZ ?_
  refine qK (yJ rfl rfl (by first | exact zG ⟨by omega, by omega⟩ | rfl)) rfl rfl rfl ?_
  refine qK (qY rfl) rfl rfl rfl ?_
  refine qU ?_
  refine zW ?_
  refine yZ ?_
  refine qJ ?_
  refine jY (ks := [2, 3, 4, 7, 8, 9]) rfl ?_
  refine qZ ?_
  refine qK (yK rfl rfl) rfl rfl rfl ?_
  refine qU ?_
  refine qQ ?_
  refine qJ ?_
  refine zV rfl (by decide) ?_
  refine zU ?_
  refine qQ ?_
  refine qJ ?_
  refine zK ?_
  refine qJ ?_
  refine qZ ?_
  refine qK (opV_indexSlice sl48 rfl rfl (by first | decide | omega) (by first | decide | omega)) rfl rfl rfl ?_
  refine qK (opV_load1_old ty2 rfl (kW hb) (by rw [cell_at hb]; rfl)) rfl rfl rfl ?_
  refine qK (qW rfl) rfl rfl rfl ?_
  refine qU ?_
  refine qQ ?_
  refine qJ ?_
  refine qZ ?_
  refine qK (qY rfl) rfl rfl rfl ?_
  refine qK (qY rfl) rfl rfl rfl ?_
  refine qK (qY rfl) rfl rfl rfl ?_
  refine qK (kZ rfl rfl (by first | exact zG ⟨by omega, by omega⟩ | rfl)) rfl rfl rfl ?_
  refine qK (yJ rfl rfl (by first | exact zG ⟨by omega, by omega⟩ | rfl)) rfl rfl rfl ?_
  refine qK (qW rfl) rfl rfl rfl ?_
  refine qU ?_
  refine qQ ?_
  refine qZ ?_
  refine qK (qY rfl) rfl rfl rfl ?_
  refine qK (opV_neg rfl (by first | exact neg_in ⟨by omega, by omega⟩ | rfl)) rfl rfl rfl ?_
  refine qK (qW rfl) rfl rfl rfl ?_
  refine qU ?_
  refine qV ?_
  refine qQ ?_
  refine qZ ?_
  refine qK (yJ rfl rfl (by first | exact zG ⟨by omega, by omega⟩ | rfl)) rfl rfl rfl ?_
  refine qK (qY rfl) rfl rfl rfl ?_
  refine qU ?_
  refine zW ?_
  refine yZ ?_
  refine qJ ?_
  refine jY (ks := [2, 3, 4, 7, 8, 9]) rfl ?_
  refine qZ ?_
  refine qK (yK rfl rfl) rfl rfl rfl ?_
  refine qU ?_
  refine qQ ?_
  refine qJ ?_
  refine zV rfl (by decide) ?_
  refine zU ?_
  refine qQ ?_
  refine qJ ?_
  refine zK ?_
  refine qJ ?_
  refine qZ ?_
  refine qK (opV_indexSlice sl48 rfl rfl (by first | decide | omega) (by first | decide | omega)) rfl rfl rfl ?_
  refine qK (opV_load1_old ty2 rfl (kW hb) (by rw [cell_at hb]; rfl)) rfl rfl rfl ?_
  refine qK (qW rfl) rfl rfl rfl ?_
  refine qU ?_
  refine qQ ?_
  refine qJ ?_
  refine qZ ?_
  refine qK (qY rfl) rfl rfl rfl ?_
  refine qK (qY rfl) rfl rfl rfl ?_
  refine qK (qY rfl) rfl rfl rfl ?_
  refine qK (kZ rfl rfl (by first | exact zG ⟨by omega, by omega⟩ | rfl)) rfl rfl rfl ?_
  refine qK (yJ rfl rfl (by first | exact zG ⟨by omega, by omega⟩ | rfl)) rfl rfl rfl ?_
  refine qK (qW rfl) rfl rfl rfl ?_
  refine qU ?_
  refine qQ ?_
  refine qZ ?_
  refine qK (qY rfl) rfl rfl rfl ?_
  refine qK (opV_neg rfl (by first | exact neg_in ⟨by omega, by omega⟩ | rfl)) rfl rfl rfl ?_
  refine qK (qW rfl) rfl rfl rfl ?_
  refine qU ?_
  refine qV ?_
  refine qQ ?_
  refine qZ ?_
  refine qK (yJ rfl rfl (by first | exact zG ⟨by omega, by omega⟩ | rfl)) rfl rfl rfl ?_
  refine qK (qY rfl) rfl rfl rfl ?_
  refine qU ?_
  refine zW ?_
  refine yZ ?_
  refine qJ ?_
  refine jY (ks := [2, 3, 4, 7, 8, 9]) rfl ?_
  refine qZ ?_
  refine qK (yK rfl rfl) rfl rfl rfl ?_
  refine qU ?_
  refine qQ ?_
  refine qJ ?_
  refine zV rfl (by decide) ?_
  refine zU ?_
  refine qQ ?_
  refine qJ ?_
  refine zK ?_
  refine qJ ?_
  refine qZ ?_
  refine qK (opV_indexSlice sl48 rfl rfl (by first | decide | omega) (by first | decide | omega)) rfl rfl rfl ?_
  refine qK (opV_load1_old ty2 rfl (kW hb) (by rw [cell_at hb]; rfl)) rfl rfl rfl ?_
  refine qK (qW rfl) rfl rfl rfl ?_
  refine qU ?_
  refine qQ ?_
  refine qJ ?_
  refine qZ ?_
  refine qK (qY rfl) rfl rfl rfl ?_
  refine qK (qY rfl) rfl rfl rfl ?_
  refine qK (qY rfl) rfl rfl rfl ?_
  refine qK (kZ rfl rfl (by first | exact zG ⟨by omega, by omega⟩ | rfl)) rfl rfl rfl ?_
  refine qK (yJ rfl rfl (by first | exact zG ⟨by omega, by omega⟩ | rfl)) rfl rfl rfl ?_
  refine qK (qW rfl) rfl rfl rfl ?_
  refine qU ?_
  refine qQ ?_
  refine qZ ?_
  refine qK (qY rfl) rfl rfl rfl ?_
  refine qK (opV_neg rfl (by first | exact neg_in ⟨by omega, by omega⟩ | rfl)) rfl rfl rfl ?_
  refine qK (qW rfl) rfl rfl rfl ?_
  refine qU ?_
  refine qV ?_
  refine qQ ?_
  refine qZ ?_
  refine qK (yJ rfl rfl (by first | exact zG ⟨by omega, by omega⟩ | rfl)) rfl rfl rfl ?_
  refine qK (qY rfl) rfl rfl rfl ?_
  refine qU ?_
  refine zW ?_
  refine yZ ?_
  refine qJ ?_
  refine jY (ks := [2, 3, 4, 7, 8, 9]) rfl ?_
  refine qZ ?_
  refine qK (yK rfl rfl) rfl rfl rfl ?_
  refine qU ?_
  refine qQ ?_
  refine qJ ?_
  refine zV rfl (by decide) ?_
  refine zU ?_
  refine qQ ?_
  refine qJ ?_
  refine zK ?_
  refine qJ ?_
  refine qZ ?_
  refine qK (opV_indexSlice sl48 rfl rfl (by first | decide | omega) (by first | decide | omega)) rfl rfl rfl ?_
  refine qK (opV_load1_old ty2 rfl (kW hb) (by rw [cell_at hb]; rfl)) rfl rfl rfl ?_
  refine qK (qW rfl) rfl rfl rfl ?_
  refine qU ?_
  refine qQ ?_
  refine qJ ?_
  refine qZ ?_
  refine qK (qY rfl) rfl rfl rfl ?_
  refine qK (qY rfl) rfl rfl rfl ?_
  refine qK (qY rfl) rfl rfl rfl ?_
  refine qK (kZ rfl rfl (by first | exact zG ⟨by omega, by omega⟩ | rfl)) rfl rfl rfl ?_
  refine qK (yJ rfl rfl (by first | exact zG ⟨by omega, by omega⟩ | rfl)) rfl rfl rfl ?_
  refine qK (qW rfl) rfl rfl rfl ?_
  refine qU ?_
  refine qQ ?_
  refine qZ ?_
  refine qK (qY rfl) rfl rfl rfl ?_
  refine qK (opV_neg rfl (by first | exact neg_in ⟨by omega, by omega⟩ | rfl)) rfl rfl rfl ?_
  refine qK (qW rfl) rfl rfl rfl ?_
  refine qU ?_
  refine qV ?_
  refine qQ ?_
  refine qZ ?_
  refine qK (yJ rfl rfl (by first | exact zG ⟨by omega, by omega⟩ | rfl)) rfl rfl rfl ?_
  refine qK (qY rfl) rfl rfl rfl ?_
  refine qU ?_
  refine zW ?_
  refine yZ ?_
  refine qJ ?_
  refine jY (ks := [2, 3, 4, 7, 8, 9]) rfl ?_
  refine qZ ?_
  refine qK (yK rfl rfl) rfl rfl rfl ?_
  refine qU ?_
  refine qQ ?_
  refine qJ ?_
  refine zV rfl (by decide) ?_
  refine zU ?_
  refine qQ ?_
  refine qJ ?_
  refine zK ?_
  refine qJ ?_
  refine qZ ?_
  refine qK (opV_indexSlice sl48 rfl rfl (by first | decide | omega) (by first | decide | omega)) rfl rfl rfl ?_
  refine qK (opV_load1_old ty2 rfl (kW hb) (by rw [cell_at hb]; rfl)) rfl rfl rfl ?_
  refine qK (qW rfl) rfl rfl rfl ?_
  refine qU ?_
  refine qQ ?_
  refine qJ ?_
  refine qZ ?_
  refine qK (qY rfl) rfl rfl rfl ?_
  refine qK (qY rfl) rfl rfl rfl ?_
  refine qK (qY rfl) rfl rfl rfl ?_
  refine qK (kZ rfl rfl (by first | exact zG ⟨by omega, by omega⟩ | rfl)) rfl rfl rfl ?_
  refine qK (yJ rfl rfl (by first | exact zG ⟨by omega, by omega⟩ | rfl)) rfl rfl rfl ?_
  refine qK (qW rfl) rfl rfl rfl ?_
  refine qU ?_
  refine qQ ?_
  refine qZ ?_
  refine qK (qY rfl) rfl rfl rfl ?_
  refine qK (opV_neg rfl (by first | exact neg_in ⟨by omega, by omega⟩ | rfl)) rfl rfl rfl ?_
  refine qK (qW rfl) rfl rfl rfl ?_
  refine qU ?_
  refine qV ?_
  refine qQ ?_
  refine qZ ?_
  refine qK (yJ rfl rfl (by first | exact zG ⟨by omega, by omega⟩ | rfl)) rfl rfl rfl ?_
  refine qK (qY rfl) rfl rfl rfl ?_
  refine qU ?_
  refine zW ?_
  refine yZ ?_
  refine qJ ?_
  refine jY (ks := [2, 3, 4, 7, 8, 9]) rfl ?_
  refine qZ ?_
  refine qK (yK rfl rfl) rfl rfl rfl ?_
  refine qU ?_
  refine qQ ?_
  refine qJ ?_
  refine jW rfl (by decide) ?_
  refine kH ?_
  refine zX ?_
  refine zX ?_
  refine yH ?_
  refine qQ ?_
  refine qJ ?_
  refine qZ ?_
  refine qK (qY rfl) rfl rfl rfl ?_
  refine qK (qW rfl) rfl rfl rfl ?_
  refine qU ?_
  refine qQ ?_
  refine yU ?_
  refine zH (rs := [.tmp 2]) rfl (resC (jU rfl) (resN)) (congrArg (vI) (?_ : _ = x1 - x2 + x3 - x4 + x5 - x6))
  omega
theorem aSine (x : Int) (h : 0 ≤ x ∧ x ≤ 8192) (w : World) : Calls Tryz.prog 205 [.int .i64 x].toArray w (Rets (iv (sineI x)) (w)) := by
  refine yQ (n := 44) Tryz.func205 rfl rfl rfl ?_
  refine qJ ?_
  refine qZ ?_
  refine jZ 2 ze88 rfl rfl rfl ?_; intro b2
  refine qU ?_
  refine qQ ?_
  refine qJ ?_
  refine qZ ?_
  refine qK (qY rfl) rfl rfl rfl ?_
  refine kY (F := powV) (zY en207 rfl (fun w _ => aPow _ (by first | omega | assumption | (unfold In64; omega) | decide) w)) rfl rfl rfl ?_; intro r9 hr9
  obtain rfl := hr9.symm
  refine qK (qY rfl) rfl rfl rfl ?_
  refine qK (opV_extract rfl rfl) rfl rfl rfl ?_
  refine qK (opV_extract rfl rfl) rfl rfl rfl ?_
  refine jZ 3 ze214 rfl rfl rfl ?_; intro b3
  refine jZ 4 ze214 rfl rfl rfl ?_; intro b4
  refine zZ 3 ty214 rfl rfl rfl rfl rfl rfl rfl rfl ?_
  refine zZ 4 ty214 rfl rfl rfl rfl rfl rfl rfl rfl ?_
  refine qU ?_
  refine qQ ?_
  refine qJ ?_
  have d1 := dn_bnd h 1
  have d2 := dn_bnd h 2
  have d3 := dn_bnd h 3
  have d4 := dn_bnd h 4
  have d5 := dn_bnd h 5
  have d6 := dn_bnd h 6
  have d7 := dn_bnd h 7
  have d8 := dn_bnd h 8
  have u1 := up_bnd h 1
  have u2 := up_bnd h 2
  have u3 := up_bnd h 3
  have u4 := up_bnd h 4
  have u5 := up_bnd h 5
  have u6 := up_bnd h 6
  have u7 := up_bnd h 7
  have u8 := up_bnd h 8
  have u9 := up_bnd h 9
  have u10 := up_bnd h 10
  refine yX 13 mo (by kernel_rfl) ?_
  simp only [List.take_succ_cons, List.take_zero, List.drop_succ_cons, List.drop_zero]
  refine qG (qX ar214 rfl rfl (by first | decide | omega) (by first | decide | omega)) rfl rfl rfl ?_
  refine qG (zJ 3 ty2 rfl rfl rfl) rfl rfl rfl ?_
  refine qG (qX ar214 rfl rfl (by first | decide | omega) (by first | decide | omega)) rfl rfl rfl ?_
  refine qG (zJ 4 ty2 rfl rfl rfl) rfl rfl rfl ?_
  refine yG (F := vI) (zY en209 rfl (fun w _ => aCeil _ _ (by first | omega | assumption | (unfold In64; omega) | decide) (by first | omega | assumption | (unfold In64; omega) | decide) w)) rfl rfl rfl ?_; intro r16 hr16
  have qr16 := ceil_nonneg_of hr16 (by omega) (by omega)
  refine qG (qX ar214 rfl rfl (by first | decide | omega) (by first | decide | omega)) rfl rfl rfl ?_
  refine qG (zJ 3 ty2 rfl rfl rfl) rfl rfl rfl ?_
  refine qG (opV_quo rfl rfl (by first | decide | omega) (by first | exact (congrArg _ (tdiv_nonneg (by omega) (by omega))).trans (zG ⟨by omega, by omega⟩) | rfl)) rfl rfl rfl ?_
  refine qG (qX ar214 rfl rfl (by first | decide | omega) (by first | decide | omega)) rfl rfl rfl ?_
  refine qG (zJ 4 ty2 rfl rfl rfl) rfl rfl rfl ?_
  refine yG (F := vI) (zY en209 rfl (fun w _ => aCeil _ _ (by first | omega | assumption | (unfold In64; omega) | decide) (by first | omega | assumption | (unfold In64; omega) | decide) w)) rfl rfl rfl ?_; intro r22 hr22
  have qr22 := ceil_nonneg_of hr22 (by omega) (by omega)
  refine doG_bslice sl48 ze2 rfl rfl rfl rfl rfl rfl rfl rfl rfl ?_
  refine doG_callG (F := vI) 23 en208 rfl (fun u => rfl) (fun u w _ hT => (by obtain ⟨bb, rfl, _, _, hb⟩ := hT; exact alt4 bb _ _ _ _ (by omega) (by omega) (by omega) (by omega) w hb)) (fun u => rfl) (by decide) rfl ?_; intro r24 hr24
  refine jK ?_
  refine tail_ghost ?_; intro u23
  refine yV ?_
  refine qK (qW rfl) rfl rfl rfl ?_
  refine qU ?_
  refine qQ ?_
  refine qJ ?_
  refine yX 16 mo (by kernel_rfl) ?_
  simp only [List.take_succ_cons, List.take_zero, List.drop_succ_cons, List.drop_zero]
  refine qG (qX ar214 rfl rfl (by first | decide | omega) (by first | decide | omega)) rfl rfl rfl ?_
  refine qG (zJ 4 ty2 rfl rfl rfl) rfl rfl rfl ?_
  refine qG (qX ar214 rfl rfl (by first | decide | omega) (by first | decide | omega)) rfl rfl rfl ?_
  refine qG (zJ 3 ty2 rfl rfl rfl) rfl rfl rfl ?_
  refine qG (opV_quo rfl rfl (by first | decide | omega) (by first | exact (congrArg _ (tdiv_nonneg (by omega) (by omega))).trans (zG ⟨by omega, by omega⟩) | rfl)) rfl rfl rfl ?_
  refine qG (qX ar214 rfl rfl (by first | decide | omega) (by first | decide | omega)) rfl rfl rfl ?_
  refine qG (zJ 4 ty2 rfl rfl rfl) rfl rfl rfl ?_
  refine yG (F := vI) (zY en209 rfl (fun w _ => aCeil _ _ (by first | omega | assumption | (unfold In64; omega) | decide) (by first | omega | assumption | (unfold In64; omega) | decide) w)) rfl rfl rfl ?_; intro r32 hr32
  have qr32 := ceil_nonneg_of hr32 (by omega) (by omega)
  refine qG (qX ar214 rfl rfl (by first | decide | omega) (by first | decide | omega)) rfl rfl rfl ?_
  refine qG (zJ 3 ty2 rfl rfl rfl) rfl rfl rfl ?_
  refine qG (opV_quo rfl rfl (by first | decide | omega) (by first | exact (congrArg _ (tdiv_nonneg (by omega) (by omega))).trans (zG ⟨by omega, by omega⟩) | rfl)) rfl rfl rfl ?_
  refine qG (qX ar214 rfl rfl (by first | decide | omega) (by first | decide | omega)) rfl rfl rfl ?_
  refine qG (zJ 4 ty2 rfl rfl rfl) rfl rfl rfl ?_
  refine yG (F := vI) (zY en209 rfl (fun w _ => aCeil _ _ (by first | omega | assumption | (unfold In64; omega) | decide) (by first | omega | assumption | (unfold In64; omega) | decide) w)) rfl rfl rfl ?_; intro r38 hr38
  have qr38 := ceil_nonneg_of hr38 (by omega) (by omega)
  refine doG_bslice sl48 ze2 rfl rfl rfl rfl rfl rfl rfl rfl rfl ?_
  refine doG_callG (F := vI) 39 en208 rfl (fun u => rfl) (fun u w _ hT => (by obtain ⟨bb, rfl, _, _, hb⟩ := hT; exact alt5 bb _ _ _ _ _ (by omega) (by omega) (by omega) (by omega) (by omega) w hb)) (fun u => rfl) (by decide) rfl ?_; intro r40 hr40
  refine jK ?_
  refine tail_ghost ?_; intro u39
  refine yV ?_
  refine qK (qW rfl) rfl rfl rfl ?_
  refine qU ?_
  refine qQ ?_
  refine qJ ?_
  refine qZ ?_
  refine qK (qY rfl) rfl rfl rfl ?_
  refine qK (qY rfl) rfl rfl rfl ?_
  refine kY (F := iv) (zY en210 rfl (fun w _ => aEnc _ _ (by unfold In64; omega) w)) rfl rfl rfl ?_; intro r43 hr43
  refine zZ 2 ty88 rfl rfl rfl rfl rfl rfl rfl rfl ?_
  refine qU ?_
  refine qQ ?_
  refine yU ?_
  refine zH (rs := [.cell 2 88]) rfl (resC (yY 2 rfl rfl ty88 rfl) (resN)) (congrArg (iv) (?_ : ⟨_, _⟩ = sineI x))
  subst_vars; rfl
theorem aCosine (x : Int) (h : 0 ≤ x ∧ x ≤ 8192) (w : World) : Calls Tryz.prog 206 [.int .i64 x].toArray w (Rets (iv (cosineI x)) (w)) := by
  refine yQ (n := 46) Tryz.func206 rfl rfl rfl ?_
  refine qJ ?_
  refine qZ ?_
  refine jZ 2 ze88 rfl rfl rfl ?_; intro b2
  refine qU ?_
  refine qQ ?_
  refine qJ ?_
  refine qZ ?_
  refine qK (qY rfl) rfl rfl rfl ?_
  refine kY (F := powV) (zY en207 rfl (fun w _ => aPow _ (by first | omega | assumption | (unfold In64; omega) | decide) w)) rfl rfl rfl ?_; intro r9 hr9
  obtain rfl := hr9.symm
  refine qK (qY rfl) rfl rfl rfl ?_
  refine qK (opV_extract rfl rfl) rfl rfl rfl ?_
  refine qK (opV_extract rfl rfl) rfl rfl rfl ?_
  refine jZ 3 ze214 rfl rfl rfl ?_; intro b3
  refine jZ 4 ze214 rfl rfl rfl ?_; intro b4
  refine zZ 3 ty214 rfl rfl rfl rfl rfl rfl rfl rfl ?_
  refine zZ 4 ty214 rfl rfl rfl rfl rfl rfl rfl rfl ?_
  refine qU ?_
  refine qQ ?_
  refine qJ ?_
  have d1 := dn_bnd h 1
  have d2 := dn_bnd h 2
  have d3 := dn_bnd h 3
  have d4 := dn_bnd h 4
  have d5 := dn_bnd h 5
  have d6 := dn_bnd h 6
  have d7 := dn_bnd h 7
  have d8 := dn_bnd h 8
  have u1 := up_bnd h 1
  have u2 := up_bnd h 2
  have u3 := up_bnd h 3
  have u4 := up_bnd h 4
  have u5 := up_bnd h 5
  have u6 := up_bnd h 6
  have u7 := up_bnd h 7
  have u8 := up_bnd h 8
  have u9 := up_bnd h 9
  have u10 := up_bnd h 10
  refine yX 17 mo (by kernel_rfl) ?_
  simp only [List.take_succ_cons, List.take_zero, List.drop_succ_cons, List.drop_zero]
  refine qG (qX ar214 rfl rfl (by first | decide | omega) (by first | decide | omega)) rfl rfl rfl ?_
  refine qG (zJ 4 ty2 rfl rfl rfl) rfl rfl rfl ?_
  refine yG (F := vI) (zY en209 rfl (fun w _ => aCeil _ _ (by first | omega | assumption | (unfold In64; omega) | decide) (by first | omega | assumption | (unfold In64; omega) | decide) w)) rfl rfl rfl ?_; intro r14 hr14
  have qr14 := ceil_nonneg_of hr14 (by omega) (by omega)
  refine qG (qX ar214 rfl rfl (by first | decide | omega) (by first | decide | omega)) rfl rfl rfl ?_
  refine qG (zJ 3 ty2 rfl rfl rfl) rfl rfl rfl ?_
  refine qG (opV_quo rfl rfl (by first | decide | omega) (by first | exact (congrArg _ (tdiv_nonneg (by omega) (by omega))).trans (zG ⟨by omega, by omega⟩) | rfl)) rfl rfl rfl ?_
  refine qG (qX ar214 rfl rfl (by first | decide | omega) (by first | decide | omega)) rfl rfl rfl ?_
  refine qG (zJ 4 ty2 rfl rfl rfl) rfl rfl rfl ?_
  refine yG (F := vI) (zY en209 rfl (fun w _ => aCeil _ _ (by first | omega | assumption | (unfold In64; omega) | decide) (by first | omega | assumption | (unfold In64; omega) | decide) w)) rfl rfl rfl ?_; intro r20 hr20
  have qr20 := ceil_nonneg_of hr20 (by omega) (by omega)
  refine qG (qX ar214 rfl rfl (by first | decide | omega) (by first | decide | omega)) rfl rfl rfl ?_
  refine qG (zJ 3 ty2 rfl rfl rfl) rfl rfl rfl ?_
  refine qG (opV_quo rfl rfl (by first | decide | omega) (by first | exact (congrArg _ (tdiv_nonneg (by omega) (by omega))).trans (zG ⟨by omega, by omega⟩) | rfl)) rfl rfl rfl ?_
  refine qG (qX ar214 rfl rfl (by first | decide | omega) (by first | decide | omega)) rfl rfl rfl ?_
  refine qG (zJ 4 ty2 rfl rfl rfl) rfl rfl rfl ?_
  refine yG (F := vI) (zY en209 rfl (fun w _ => aCeil _ _ (by first | omega | assumption | (unfold In64; omega) | decide) (by first | omega | assumption | (unfold In64; omega) | decide) w)) rfl rfl rfl ?_; intro r26 hr26
  have qr26 := ceil_nonneg_of hr26 (by omega) (by omega)
  refine doG_bslice sl48 ze2 rfl rfl rfl rfl rfl rfl rfl rfl rfl ?_
  refine doG_callG (F := vI) 27 en208 rfl (fun u => rfl) (fun u w _ hT => (by obtain ⟨bb, rfl, _, _, hb⟩ := hT; exact alt6 bb _ _ _ _ _ _ (by omega) (by omega) (by omega) (by omega) (by omega) (by omega) w hb)) (fun u => rfl) (by decide) rfl ?_; intro r28 hr28
  refine jK ?_
  refine tail_ghost ?_; intro u27
  refine yV ?_
  refine qK (qW rfl) rfl rfl rfl ?_
  refine qU ?_
  refine qQ ?_
  refine qJ ?_
  refine yX 14 mo (by kernel_rfl) ?_
  simp only [List.take_succ_cons, List.take_zero, List.drop_succ_cons, List.drop_zero]
  refine qG (qX ar214 rfl rfl (by first | decide | omega) (by first | decide | omega)) rfl rfl rfl ?_
  refine qG (zJ 3 ty2 rfl rfl rfl) rfl rfl rfl ?_
  refine qG (opV_quo rfl rfl (by first | decide | omega) (by first | exact (congrArg _ (tdiv_nonneg (by omega) (by omega))).trans (zG ⟨by omega, by omega⟩) | rfl)) rfl rfl rfl ?_
  refine qG (qX ar214 rfl rfl (by first | decide | omega) (by first | decide | omega)) rfl rfl rfl ?_
  refine qG (zJ 4 ty2 rfl rfl rfl) rfl rfl rfl ?_
  refine yG (F := vI) (zY en209 rfl (fun w _ => aCeil _ _ (by first | omega | assumption | (unfold In64; omega) | decide) (by first | omega | assumption | (unfold In64; omega) | decide) w)) rfl rfl rfl ?_; intro r34 hr34
  have qr34 := ceil_nonneg_of hr34 (by omega) (by omega)
  refine qG (qX ar214 rfl rfl (by first | decide | omega) (by first | decide | omega)) rfl rfl rfl ?_
  refine qG (zJ 3 ty2 rfl rfl rfl) rfl rfl rfl ?_
  refine qG (opV_quo rfl rfl (by first | decide | omega) (by first | exact (congrArg _ (tdiv_nonneg (by omega) (by omega))).trans (zG ⟨by omega, by omega⟩) | rfl)) rfl rfl rfl ?_
  refine qG (qX ar214 rfl rfl (by first | decide | omega) (by first | decide | omega)) rfl rfl rfl ?_
  refine qG (zJ 4 ty2 rfl rfl rfl) rfl rfl rfl ?_
  refine yG (F := vI) (zY en209 rfl (fun w _ => aCeil _ _ (by first | omega | assumption | (unfold In64; omega) | decide) (by first | omega | assumption | (unfold In64; omega) | decide) w)) rfl rfl rfl ?_; intro r40 hr40
  have qr40 := ceil_nonneg_of hr40 (by omega) (by omega)
  refine doG_bslice sl48 ze2 rfl rfl rfl rfl rfl rfl rfl rfl rfl ?_
  refine doG_callG (F := vI) 41 en208 rfl (fun u => rfl) (fun u w _ hT => (by obtain ⟨bb, rfl, _, _, hb⟩ := hT; exact alt5 bb _ _ _ _ _ (by omega) (by omega) (by omega) (by omega) (by omega) w hb)) (fun u => rfl) (by decide) rfl ?_; intro r42 hr42
  refine jK ?_
  refine tail_ghost ?_; intro u41
  refine yV ?_
  refine qK (qW rfl) rfl rfl rfl ?_
  refine qU ?_
  refine qQ ?_
  refine qJ ?_
  refine qZ ?_
  refine qK (qY rfl) rfl rfl rfl ?_
  refine qK (qY rfl) rfl rfl rfl ?_
  refine kY (F := iv) (zY en210 rfl (fun w _ => aEnc _ _ (by unfold In64; omega) w)) rfl rfl rfl ?_; intro r45 hr45
  refine zZ 2 ty88 rfl rfl rfl rfl rfl rfl rfl rfl ?_
  refine qU ?_
  refine qQ ?_
  refine yU ?_
  refine zH (rs := [.cell 2 88]) rfl (resC (yY 2 rfl rfl ty88 rfl) (resN)) (congrArg (iv) (?_ : ⟨_, _⟩ = cosineI x))
  subst_vars; rfl
theorem aFirst (r : Int) (h : 0 ≤ r ∧ r ≤ 16384) (w : World) : Calls Tryz.prog 203 [.int .i64 r].toArray w (Rets (iv (firstI r)) (w)) := by
  refine yQ (n := 10) Tryz.func203 rfl rfl rfl ?_
  refine qJ ?_
  refine qZ ?_
  refine jZ 2 ze88 rfl rfl rfl ?_; intro b2
  refine qU ?_
  refine qQ ?_
  refine qJ ?_
  refine qJ ?_
  refine qZ ?_
  refine qK (qY rfl) rfl rfl rfl ?_
  refine qK (opV_leq rfl rfl) rfl rfl rfl ?_
  refine qU ?_
  refine qQ ?_
  refine jG rfl (fun hc4 => ?_) (fun hc4 => ?_)
  ·
    have h2 := of_decide_eq_true hc4
    refine qJ ?_
    refine qZ ?_
    refine qK (qY rfl) rfl rfl rfl ?_
    refine kY (F := iv) (zY en205 rfl (fun w _ => aSine _ (by first | omega | assumption | (unfold In64; omega) | decide) w)) rfl rfl rfl ?_; intro r6 hr6
    refine zZ 2 ty88 rfl rfl rfl rfl rfl rfl rfl rfl ?_
    refine qU ?_
    refine qQ ?_
    refine yU ?_
    refine kQ ?_
    refine zH (rs := [.cell 2 88]) rfl (resC (yY 2 rfl rfl ty88 rfl) (resN)) (congrArg (iv) (?_ : ⟨_, _⟩ = firstI r))
    subst_vars; unfold firstI; rw [hc4]; rfl
  ·
    have h2 := of_decide_eq_false hc4
    refine zU ?_
    refine qQ ?_
    refine qJ ?_
    refine qZ ?_
    refine qK (qY rfl) rfl rfl rfl ?_
    refine qK (opV_sub rfl rfl (by first | exact zG ⟨by omega, by omega⟩ | rfl)) rfl rfl rfl ?_
    refine kY (F := iv) (zY en206 rfl (fun w _ => aCosine _ (by first | omega | assumption | (unfold In64; omega) | decide) w)) rfl rfl rfl ?_; intro r9 hr9
    refine zZ 2 ty88 rfl rfl rfl rfl rfl rfl rfl rfl ?_
    refine qU ?_
    refine qQ ?_
    refine yU ?_
    refine zH (rs := [.cell 2 88]) rfl (resC (yY 2 rfl rfl ty88 rfl) (resN)) (congrArg (iv) (?_ : ⟨_, _⟩ = firstI r))
    subst_vars; unfold firstI; rw [hc4]; rfl
theorem aSin (a : Int) (w : World) : Calls Tryz.prog 196 [.int .i64 a].toArray w (Rets (iv (sinI a)) (w)) := by
  refine yQ (n := 29) Tryz.func196 rfl rfl rfl ?_
  refine qJ ?_
  refine qZ ?_
  refine jZ 2 ze88 rfl rfl rfl ?_; intro b2
  refine qU ?_
  refine qQ ?_
  refine qJ ?_
  refine qZ ?_
  refine qK (qY rfl) rfl rfl rfl ?_
  refine kY (F := vI) (zY en202 rfl (fun w _ => aMod _  w)) rfl rfl rfl ?_; intro r6 hr6
  have qr6 : 0 ≤ r6 ∧ r6 < 65536 := by omega
  refine qK (qW rfl) rfl rfl rfl ?_
  refine qU ?_
  refine qQ ?_
  refine qJ ?_
  refine qZ ?_
  refine qK (qY rfl) rfl rfl rfl ?_
  refine qK (opV_rem rfl rfl (by first | decide | omega) (by first | exact tmod_nonneg (by omega) (by omega) | rfl)) rfl rfl rfl ?_
  refine qK (qW rfl) rfl rfl rfl ?_
  refine qU ?_
  refine qQ ?_
  refine qJ ?_
  refine qZ ?_
  refine qK (qY rfl) rfl rfl rfl ?_
  refine qK (opV_quo rfl rfl (by first | decide | omega) (by first | exact (congrArg _ (tdiv_nonneg (by omega) (by omega))).trans (zG ⟨by omega, by omega⟩) | rfl)) rfl rfl rfl ?_
  refine qU ?_
  refine qQ ?_
  refine zK ?_
  refine qJ ?_
  refine qZ ?_
  refine qK (uU rfl rfl) rfl rfl rfl ?_
  refine qK (qW rfl) rfl rfl rfl ?_
  refine qU ?_
  refine qQ ?_
  refine jG rfl (fun hc15 => ?_) (fun hc15 => ?_)
  ·
    refine qJ ?_
    refine qZ ?_
    refine qK (qY rfl) rfl rfl rfl ?_
    refine kY (F := iv) (zY en203 rfl (fun w _ => aFirst _ (by first | omega | assumption | (unfold In64; omega) | decide) w)) rfl rfl rfl ?_; intro r18 hr18
    refine zZ 2 ty88 rfl rfl rfl rfl rfl rfl rfl rfl ?_
    refine qU ?_
    refine qQ ?_
    refine yU ?_
    refine kJ ?_
    refine zH (rs := [.cell 2 88]) rfl (resC (yY 2 rfl rfl ty88 rfl) (resN)) (congrArg (iv) (?_ : ⟨_, _⟩ = sinI a))
    subst_vars; first | (simp_all [sinI, sinM]; done) | (simp_all [sinI, sinM] <;> omega) | grind [sinI, sinM]
  ·
    refine qJ ?_
    refine qZ ?_
    refine qK (uU rfl rfl) rfl rfl rfl ?_
    refine qK (qW rfl) rfl rfl rfl ?_
    refine qU ?_
    refine qQ ?_
    refine jG rfl (fun hc19 => ?_) (fun hc19 => ?_)
    ·
      refine qJ ?_
      refine qZ ?_
      refine qK (qY rfl) rfl rfl rfl ?_
      refine qK (opV_sub rfl rfl (by first | exact zG ⟨by omega, by omega⟩ | rfl)) rfl rfl rfl ?_
      refine kY (F := iv) (zY en203 rfl (fun w _ => aFirst _ (by first | omega | assumption | (unfold In64; omega) | decide) w)) rfl rfl rfl ?_; intro r23 hr23
      refine zZ 2 ty88 rfl rfl rfl rfl rfl rfl rfl rfl ?_
      refine qU ?_
      refine qQ ?_
      refine yU ?_
      refine kJ ?_
      refine zH (rs := [.cell 2 88]) rfl (resC (yY 2 rfl rfl ty88 rfl) (resN)) (congrArg (iv) (?_ : ⟨_, _⟩ = sinI a))
      subst_vars; first | (simp_all [sinI, sinM]; done) | (simp_all [sinI, sinM] <;> omega) | grind [sinI, sinM]
    ·
      refine qJ ?_
      refine qZ ?_
      refine qK (uU rfl rfl) rfl rfl rfl ?_
      refine qK (qW rfl) rfl rfl rfl ?_
      refine qU ?_
      refine qQ ?_
      refine jG rfl (fun hc24 => ?_) (fun hc24 => ?_)
      ·
        refine qJ ?_
        refine qZ ?_
        refine qK (qY rfl) rfl rfl rfl ?_
        refine kY (F := iv) (zY en203 rfl (fun w _ => aFirst _ (by first | omega | assumption | (unfold In64; omega) | decide) w)) rfl rfl rfl ?_; intro r27 hr27
        refine kY (F := iv) (zY en191 rfl (fun w _ => iNeg _ _  w)) rfl rfl rfl ?_; intro r28 hr28
        refine zZ 2 ty88 rfl rfl rfl rfl rfl rfl rfl rfl ?_
        refine qU ?_
        refine qQ ?_
        refine yU ?_
        refine kJ ?_
        refine zH (rs := [.cell 2 88]) rfl (resC (yY 2 rfl rfl ty88 rfl) (resN)) (congrArg (iv) (?_ : ⟨_, _⟩ = sinI a))
        subst_vars; first | (simp_all [sinI, sinM]; done) | (simp_all [sinI, sinM] <;> omega) | grind [sinI, sinM]
      ·
        refine qJ ?_
        refine qZ ?_
        refine qK (qY rfl) rfl rfl rfl ?_
        refine qK (opV_sub rfl rfl (by first | exact zG ⟨by omega, by omega⟩ | rfl)) rfl rfl rfl ?_
        refine kY (F := iv) (zY en203 rfl (fun w _ => aFirst _ (by first | omega | assumption | (unfold In64; omega) | decide) w)) rfl rfl rfl ?_; intro r13 hr13
        refine kY (F := iv) (zY en191 rfl (fun w _ => iNeg _ _  w)) rfl rfl rfl ?_; intro r14 hr14
        refine zZ 2 ty88 rfl rfl rfl rfl rfl rfl rfl rfl ?_
        refine qU ?_
        refine qQ ?_
        refine yU ?_
        refine kJ ?_
        refine zH (rs := [.cell 2 88]) rfl (resC (yY 2 rfl rfl ty88 rfl) (resN)) (congrArg (iv) (?_ : ⟨_, _⟩ = sinI a))
        subst_vars; first | (simp_all [sinI, sinM]; done) | (simp_all [sinI, sinM] <;> omega) | grind [sinI, sinM]
theorem aCos (a : Int) (w : World) : Calls Tryz.prog 195 [.int .i64 a].toArray w (Rets (iv (cosI a)) (w)) := by
  refine yQ (n := 7) Tryz.func195 rfl rfl rfl ?_
  refine qJ ?_
  refine qZ ?_
  refine jZ 2 ze88 rfl rfl rfl ?_; intro b2
  refine qU ?_
  refine qQ ?_
  refine qJ ?_
  refine qZ ?_
  refine qK (qY rfl) rfl rfl rfl ?_
  refine kY (F := vI) (zY en202 rfl (fun w _ => aMod _  w)) rfl rfl rfl ?_; intro r4 hr4
  have qr4 : 0 ≤ r4 ∧ r4 < 65536 := by omega
  refine qK (yJ rfl rfl (by first | exact zG ⟨by omega, by omega⟩ | rfl)) rfl rfl rfl ?_
  refine kY (F := iv) (zY en196 rfl (fun w _ => aSin _  w)) rfl rfl rfl ?_; intro r6 hr6
  refine zZ 2 ty88 rfl rfl rfl rfl rfl rfl rfl rfl ?_
  refine qU ?_
  refine qQ ?_
  refine yU ?_
  refine zH (rs := [.cell 2 88]) rfl (resC (yY 2 rfl rfl ty88 rfl) (resN)) (congrArg (iv) (?_ : ⟨_, _⟩ = cosI a))
  subst_vars; first | (simp_all [cosI]; done) | (simp_all [cosI] <;> omega) | grind [cosI]
theorem aMeets (a0 a1 : Int) (c : Int) (hv : Iv.valid (⟨a0, a1⟩ : Iv) = true) (hc : 0 ≤ c ∧ c < 65536) (w : World) : Calls Tryz.prog 201 [.agg #[.int .i64 a0, .int .i64 a1], .int .i64 c].toArray w (Rets (vB (meetsI (⟨a0, a1⟩ : Iv) c)) (w)) := by
  refine yQ (n := 15) Tryz.func201 rfl rfl rfl ?_
  refine qJ ?_
  have hv2 := valid_mk hv
  refine qZ ?_
  refine kK 2 rfl rfl rfl rfl ?_; intro b2
  refine qK (qW rfl) rfl rfl rfl ?_
  refine qU ?_
  refine qQ ?_
  refine qJ ?_
  refine yX 10 mo (by kernel_rfl) ?_
  simp only [List.take_succ_cons, List.take_zero, List.drop_succ_cons, List.drop_zero]
  refine qG (zQ 2 ty88 rfl rfl rfl) rfl rfl rfl ?_
  refine qG (qH fa88_0 rfl) rfl rfl rfl ?_
  refine qG (zJ 2 ty2 rfl rfl rfl) rfl rfl rfl ?_
  refine qG (qY rfl) rfl rfl rfl ?_
  refine qG (qH fa88_0 rfl) rfl rfl rfl ?_
  refine qG (zJ 2 ty2 rfl rfl rfl) rfl rfl rfl ?_
  refine qG (opV_sub rfl rfl (by first | exact zG ⟨by omega, by omega⟩ | rfl)) rfl rfl rfl ?_
  refine yG (F := vI) (zY en202 rfl (fun w _ => aMod _  w)) rfl rfl rfl ?_; intro r12 hr12
  have qr12 : 0 ≤ r12 ∧ r12 < 65536 := by omega
  refine qG (yJ rfl rfl (by first | exact zG ⟨by omega, by omega⟩ | rfl)) rfl rfl rfl ?_
  refine yG (F := vB) (zY en204 rfl (fun w _ => iHas _ _ _  w)) rfl rfl rfl ?_; intro r14 hr14
  refine jK ?_
  refine yV ?_
  refine qK (qW rfl) rfl rfl rfl ?_
  refine qU ?_
  refine qQ ?_
  refine yU ?_
  refine zH (rs := [.tmp 4]) rfl (resC (jU rfl) (resN)) (congrArg (vB) (?_ : _ = meetsI (⟨a0, a1⟩ : Iv) c))
  subst_vars; simp only [Iv.has, meetsI, hv, Bool.true_and]; rw [decide_eq_true (by omega), Bool.true_and]
theorem aOver (a0 a1 : Int) (top : Int) (bot : Int) (fv : Nat) (φ : Int → Iv) (hen : Enters Tryz.prog fv) (hφ : ∀ (a : Int) (w : World), Calls Tryz.prog fv [.int .i64 a].toArray w (Rets (iv (φ a)) w)) (ht : 0 ≤ top ∧ top < 65536) (hb : 0 ≤ bot ∧ bot < 65536) (w : World) : Calls Tryz.prog 194 [.agg #[.int .i64 a0, .int .i64 a1], .func (.func fv) #[] #[], .int .i64 top, .int .i64 bot].toArray w (Rets (iv (overI (⟨a0, a1⟩ : Iv) (φ a0) (φ a1) top bot)) (w)) := by
  refine yQ (n := 40) Tryz.func194 rfl rfl rfl ?_
  refine qJ ?_
  refine qZ ?_
  refine kK 4 rfl rfl rfl rfl ?_; intro b4
  refine jZ 8 ze88 rfl rfl rfl ?_; intro b8
  refine qU ?_
  refine qQ ?_
  refine qJ ?_
  refine qJ ?_
  refine qZ ?_
  refine qK (zQ 4 ty88 rfl rfl rfl) rfl rfl rfl ?_
  refine kY (F := vB) (zY en137 rfl (fun w _ => iValid _ _  w)) rfl rfl rfl ?_; intro r11 hr11
  refine qK (opV_not rfl) rfl rfl rfl ?_
  refine qU ?_
  refine qQ ?_
  refine jG rfl (fun hc12 => ?_) (fun hc12 => ?_)
  ·
    refine qJ ?_
    refine qZ ?_
    refine qK (jV la88 rfl rfl) rfl rfl rfl ?_
    refine zZ 8 ty88 rfl rfl rfl rfl rfl rfl rfl rfl ?_
    refine qU ?_
    refine qQ ?_
    refine yU ?_
    refine kQ ?_
    refine zH (rs := [.cell 8 88]) rfl (resC (yY 8 rfl rfl ty88 rfl) (resN)) (congrArg (iv) (?_ : ⟨_, _⟩ = overI (⟨a0, a1⟩ : Iv) (φ a0) (φ a1) top bot))
    subst_vars; first | (simp_all [overI, Iv.width]; done) | (simp_all [overI, Iv.width]; rw [show decide (65536 ≤ a1 - a0) = false by simpa using hc16]; rfl)
  ·
    refine zU ?_
    refine qQ ?_
    refine qJ ?_
    refine qJ ?_
    have hv : Iv.valid ⟨a0, a1⟩ = true := hr11.symm.trans (by simpa using hc12)
    refine qZ ?_
    refine qK (zQ 4 ty88 rfl rfl rfl) rfl rfl rfl ?_
    refine kY (F := vI) (zY en199 rfl (fun w _ => iWidth _ _  w)) rfl rfl rfl ?_; intro r15 hr15
    refine qK (opV_geq rfl rfl) rfl rfl rfl ?_
    refine qU ?_
    refine qQ ?_
    refine jG rfl (fun hc16 => ?_) (fun hc16 => ?_)
    ·
      refine qJ ?_
      refine qZ ?_
      refine qK (jV la88 rfl rfl) rfl rfl rfl ?_
      refine zZ 8 ty88 rfl rfl rfl rfl rfl rfl rfl rfl ?_
      refine qU ?_
      refine qQ ?_
      refine yU ?_
      refine kQ ?_
      refine zH (rs := [.cell 8 88]) rfl (resC (yY 8 rfl rfl ty88 rfl) (resN)) (congrArg (iv) (?_ : ⟨_, _⟩ = overI (⟨a0, a1⟩ : Iv) (φ a0) (φ a1) top bot))
      subst_vars; first | (simp_all [overI, Iv.width]; done) | (simp_all [overI, Iv.width]; rw [show decide (65536 ≤ a1 - a0) = false by simpa using hc16]; rfl)
    ·
      refine zU ?_
      refine qQ ?_
      refine qJ ?_
      refine yX 10 mo (by kernel_rfl) ?_
      simp only [List.take_succ_cons, List.take_zero, List.drop_succ_cons, List.drop_zero]
      refine qG (qY rfl) rfl rfl rfl ?_
      refine qG (qH fa88_0 rfl) rfl rfl rfl ?_
      refine qG (zJ 4 ty2 rfl rfl rfl) rfl rfl rfl ?_
      refine yG (F := iv) (opV_callV hen rfl rfl rfl (fun w _ => hφ _ w)) rfl rfl rfl ?_; intro r21 hr21
      refine qG (qY rfl) rfl rfl rfl ?_
      refine qG (qH fa88_1 rfl) rfl rfl rfl ?_
      refine qG (zJ 4 ty2 rfl rfl rfl) rfl rfl rfl ?_
      refine yG (F := iv) (opV_callV hen rfl rfl rfl (fun w _ => hφ _ w)) rfl rfl rfl ?_; intro r25 hr25
      refine yG (F := iv) (zY en200 rfl (fun w _ => iHull _ _ _ _  w)) rfl rfl rfl ?_; intro r26 hr26
      refine doG_alloc ze88 rfl rfl rfl rfl ?_
      refine jK ?_
      refine tail_alloc 9 rfl ?_; intro b9_2
      refine yV ?_
      refine zZ 9 ty88 rfl rfl rfl rfl rfl rfl rfl rfl ?_
      refine qU ?_
      refine qQ ?_
      refine qJ ?_
      refine qJ ?_
      refine qZ ?_
      refine qK (zQ 4 ty88 rfl rfl rfl) rfl rfl rfl ?_
      refine qK (qY rfl) rfl rfl rfl ?_
      refine kY (F := vB) (zY en201 rfl (fun w _ => aMeets _ _ _ hv (by omega) w)) rfl rfl rfl ?_; intro r29 hr29
      refine qU ?_
      refine qQ ?_
      refine jG rfl (fun hc29 => ?_) (fun hc29 => ?_)
      ·
        refine yX 3 mo (by kernel_rfl) ?_
        simp only [List.take_succ_cons, List.take_zero, List.drop_succ_cons, List.drop_zero]
        refine qG (zQ 9 ty88 rfl rfl rfl) rfl rfl rfl ?_
        refine yG (F := iv) (zY en86 rfl (fun w _ => iOf _  w)) rfl rfl rfl ?_; intro r31 hr31
        refine yG (F := iv) (zY en200 rfl (fun w _ => iHull _ _ _ _  w)) rfl rfl rfl ?_; intro r32 hr32
        refine jK ?_
        refine yV ?_
        refine zZ 9 ty88 rfl rfl rfl rfl rfl rfl rfl rfl ?_
        refine qU ?_
        refine qQ ?_
        refine qJ ?_
        refine qJ ?_
        refine qZ ?_
        refine qK (zQ 4 ty88 rfl rfl rfl) rfl rfl rfl ?_
        refine qK (qY rfl) rfl rfl rfl ?_
        refine kY (F := vB) (zY en201 rfl (fun w _ => aMeets _ _ _ hv (by omega) w)) rfl rfl rfl ?_; intro r35 hr35
        refine qU ?_
        refine qQ ?_
        refine jG rfl (fun hc35 => ?_) (fun hc35 => ?_)
        ·
          refine yX 3 mo (by kernel_rfl) ?_
          simp only [List.take_succ_cons, List.take_zero, List.drop_succ_cons, List.drop_zero]
          refine qG (zQ 9 ty88 rfl rfl rfl) rfl rfl rfl ?_
          refine yG (F := iv) (zY en86 rfl (fun w _ => iOf _  w)) rfl rfl rfl ?_; intro r37 hr37
          refine yG (F := iv) (zY en200 rfl (fun w _ => iHull _ _ _ _  w)) rfl rfl rfl ?_; intro r38 hr38
          refine jK ?_
          refine yV ?_
          refine zZ 9 ty88 rfl rfl rfl rfl rfl rfl rfl rfl ?_
          refine qU ?_
          refine qQ ?_
          refine qJ ?_
          refine qZ ?_
          refine qK (zQ 9 ty88 rfl rfl rfl) rfl rfl rfl ?_
          refine zZ 8 ty88 rfl rfl rfl rfl rfl rfl rfl rfl ?_
          refine qU ?_
          refine qQ ?_
          refine yU ?_
          refine zH (rs := [.cell 8 88]) rfl (resC (yY 8 rfl rfl ty88 rfl) (resN)) (congrArg (iv) (?_ : ⟨_, _⟩ = overI (⟨a0, a1⟩ : Iv) (φ a0) (φ a1) top bot))
          subst_vars; first | (simp_all [overI, Iv.width]; done) | (simp_all [overI, Iv.width]; rw [show decide (65536 ≤ a1 - a0) = false by simpa using hc16]; rfl)
        ·
          refine zU ?_
          refine qQ ?_
          refine qJ ?_
          refine qZ ?_
          refine qK (zQ 9 ty88 rfl rfl rfl) rfl rfl rfl ?_
          refine zZ 8 ty88 rfl rfl rfl rfl rfl rfl rfl rfl ?_
          refine qU ?_
          refine qQ ?_
          refine yU ?_
          refine zH (rs := [.cell 8 88]) rfl (resC (yY 8 rfl rfl ty88 rfl) (resN)) (congrArg (iv) (?_ : ⟨_, _⟩ = overI (⟨a0, a1⟩ : Iv) (φ a0) (φ a1) top bot))
          subst_vars; first | (simp_all [overI, Iv.width]; done) | (simp_all [overI, Iv.width]; rw [show decide (65536 ≤ a1 - a0) = false by simpa using hc16]; rfl)
      ·
        refine zU ?_
        refine qQ ?_
        refine qJ ?_
        refine qJ ?_
        refine qZ ?_
        refine qK (zQ 4 ty88 rfl rfl rfl) rfl rfl rfl ?_
        refine qK (qY rfl) rfl rfl rfl ?_
        refine kY (F := vB) (zY en201 rfl (fun w _ => aMeets _ _ _ hv (by omega) w)) rfl rfl rfl ?_; intro r35 hr35
        refine qU ?_
        refine qQ ?_
        refine jG rfl (fun hc35 => ?_) (fun hc35 => ?_)
        ·
          refine yX 3 mo (by kernel_rfl) ?_
          simp only [List.take_succ_cons, List.take_zero, List.drop_succ_cons, List.drop_zero]
          refine qG (zQ 9 ty88 rfl rfl rfl) rfl rfl rfl ?_
          refine yG (F := iv) (zY en86 rfl (fun w _ => iOf _  w)) rfl rfl rfl ?_; intro r37 hr37
          refine yG (F := iv) (zY en200 rfl (fun w _ => iHull _ _ _ _  w)) rfl rfl rfl ?_; intro r38 hr38
          refine jK ?_
          refine yV ?_
          refine zZ 9 ty88 rfl rfl rfl rfl rfl rfl rfl rfl ?_
          refine qU ?_
          refine qQ ?_
          refine qJ ?_
          refine qZ ?_
          refine qK (zQ 9 ty88 rfl rfl rfl) rfl rfl rfl ?_
          refine zZ 8 ty88 rfl rfl rfl rfl rfl rfl rfl rfl ?_
          refine qU ?_
          refine qQ ?_
          refine yU ?_
          refine zH (rs := [.cell 8 88]) rfl (resC (yY 8 rfl rfl ty88 rfl) (resN)) (congrArg (iv) (?_ : ⟨_, _⟩ = overI (⟨a0, a1⟩ : Iv) (φ a0) (φ a1) top bot))
          subst_vars; first | (simp_all [overI, Iv.width]; done) | (simp_all [overI, Iv.width]; rw [show decide (65536 ≤ a1 - a0) = false by simpa using hc16]; rfl)
        ·
          refine zU ?_
          refine qQ ?_
          refine qJ ?_
          refine qZ ?_
          refine qK (zQ 9 ty88 rfl rfl rfl) rfl rfl rfl ?_
          refine zZ 8 ty88 rfl rfl rfl rfl rfl rfl rfl rfl ?_
          refine qU ?_
          refine qQ ?_
          refine yU ?_
          refine zH (rs := [.cell 8 88]) rfl (resC (yY 8 rfl rfl ty88 rfl) (resN)) (congrArg (iv) (?_ : ⟨_, _⟩ = overI (⟨a0, a1⟩ : Iv) (φ a0) (φ a1) top bot))
          subst_vars; first | (simp_all [overI, Iv.width]; done) | (simp_all [overI, Iv.width]; rw [show decide (65536 ≤ a1 - a0) = false by simpa using hc16]; rfl)
theorem aSinOver (a0 a1 : Int) (w : World) : Calls Tryz.prog 190 [.agg #[.int .i64 a0, .int .i64 a1]].toArray w (Rets (iv (sinOverI (⟨a0, a1⟩ : Iv))) (w)) := by
  refine yQ (n := 5) Tryz.func190 rfl rfl rfl ?_
  refine qJ ?_
  refine qZ ?_
  refine kK 1 rfl rfl rfl rfl ?_; intro b1
  refine jZ 2 ze88 rfl rfl rfl ?_; intro b2
  refine qU ?_
  refine qQ ?_
  refine qJ ?_
  refine qZ ?_
  refine qK (zQ 1 ty88 rfl rfl rfl) rfl rfl rfl ?_
  refine kY (F := iv) (zY en194 rfl (fun w _ => aOver _ _ _ _ 196 sinI en196 aSin (by decide) (by decide) w)) rfl rfl rfl ?_; intro r4 hr4
  refine zZ 2 ty88 rfl rfl rfl rfl rfl rfl rfl rfl ?_
  refine qU ?_
  refine qQ ?_
  refine yU ?_
  refine zH (rs := [.cell 2 88]) rfl (resC (yY 2 rfl rfl ty88 rfl) (resN)) (congrArg (iv) (?_ : ⟨_, _⟩ = sinOverI (⟨a0, a1⟩ : Iv)))
  subst_vars; first | (simp_all [sinOverI]; done) | (simp_all [sinOverI] <;> omega) | grind [sinOverI]
theorem aCosOver (a0 a1 : Int) (w : World) : Calls Tryz.prog 189 [.agg #[.int .i64 a0, .int .i64 a1]].toArray w (Rets (iv (cosOverI (⟨a0, a1⟩ : Iv))) (w)) := by
  refine yQ (n := 5) Tryz.func189 rfl rfl rfl ?_
  refine qJ ?_
  refine qZ ?_
  refine kK 1 rfl rfl rfl rfl ?_; intro b1
  refine jZ 2 ze88 rfl rfl rfl ?_; intro b2
  refine qU ?_
  refine qQ ?_
  refine qJ ?_
  refine qZ ?_
  refine qK (zQ 1 ty88 rfl rfl rfl) rfl rfl rfl ?_
  refine kY (F := iv) (zY en194 rfl (fun w _ => aOver _ _ _ _ 195 cosI en195 aCos (by decide) (by decide) w)) rfl rfl rfl ?_; intro r4 hr4
  refine zZ 2 ty88 rfl rfl rfl rfl rfl rfl rfl rfl ?_
  refine qU ?_
  refine qQ ?_
  refine yU ?_
  refine zH (rs := [.cell 2 88]) rfl (resC (yY 2 rfl rfl ty88 rfl) (resN)) (congrArg (iv) (?_ : ⟨_, _⟩ = cosOverI (⟨a0, a1⟩ : Iv)))
  subst_vars; first | (simp_all [cosOverI]; done) | (simp_all [cosOverI] <;> omega) | grind [cosOverI]
theorem mRound (n : Int) (k : Int) (hk : 0 < k ∧ k ≤ 9223372036854775807) (w : World) : Calls Tryz.prog 16 [.int .i64 n, .int .i64 k].toArray w (Rets (vI (n % k)) (w)) := by
  refine yQ (n := 15) Tryz.func16 rfl rfl rfl ?_
  refine qJ ?_
  have h0 := Int.lt_tmod_of_pos n hk.1
  have h1 := Int.tmod_lt_of_pos n hk.1
  refine qZ ?_
  refine qK (qW rfl) rfl rfl rfl ?_
  refine qU ?_
  refine qQ ?_
  refine qJ ?_
  refine qZ ?_
  refine qK (qY rfl) rfl rfl rfl ?_
  refine qK (qY rfl) rfl rfl rfl ?_
  refine qK (opV_rem rfl rfl (by first | decide | omega) rfl) rfl rfl rfl ?_
  refine qK (qW rfl) rfl rfl rfl ?_
  refine qU ?_
  refine qQ ?_
  refine qJ ?_
  refine qJ ?_
  refine qZ ?_
  refine qK (qY rfl) rfl rfl rfl ?_
  refine qK (yK rfl rfl) rfl rfl rfl ?_
  refine qU ?_
  refine qQ ?_
  refine jG rfl (fun hc10 => ?_) (fun hc10 => ?_)
  ·
    have h2 := of_decide_eq_true hc10
    refine qZ ?_
    refine qK (qY rfl) rfl rfl rfl ?_
    refine qK (qY rfl) rfl rfl rfl ?_
    refine qK (yJ rfl rfl (by first | exact zG ⟨by omega, by omega⟩ | rfl)) rfl rfl rfl ?_
    refine qK (qW rfl) rfl rfl rfl ?_
    refine qU ?_
    refine qQ ?_
    refine qJ ?_
    refine qZ ?_
    refine qK (qY rfl) rfl rfl rfl ?_
    refine qK (qW rfl) rfl rfl rfl ?_
    refine qU ?_
    refine qQ ?_
    refine yU ?_
    refine zH (rs := [.tmp 4]) rfl (resC (jU rfl) (resN)) (congrArg (vI) (?_ : _ = n % k))
    exact round_neg hk.1 h2
  ·
    have h2 := of_decide_eq_false hc10
    refine zU ?_
    refine qQ ?_
    refine qJ ?_
    refine qZ ?_
    refine qK (qY rfl) rfl rfl rfl ?_
    refine qK (qW rfl) rfl rfl rfl ?_
    refine qU ?_
    refine qQ ?_
    refine yU ?_
    refine zH (rs := [.tmp 4]) rfl (resC (jU rfl) (resN)) (congrArg (vI) (?_ : _ = n % k))
    exact round_pos hk.1 h2
end Go.Proofs.YtnlnbnjnapofmaaGreat
namespace Go.Sx
structure J where
  name : ByteArray
  kind : Int
  parent : Int
  off : Z3
  lo : Int
  hi : Int
  weight : Int
  speed : Int
  accel : Int
  torque : Int
def jc (j : J) : List Value := [.string j.name, .int .i64 j.kind, .int .i64 j.parent, .int .i64 j.off.x, .int .i64 j.off.y, .int .i64 j.off.z, .int .i64 j.lo, .int .i64 j.hi, .int .i64 j.weight, .int .i64 j.speed, .int .i64 j.accel, .int .i64 j.torque]
def jv (j : J) : Value := .agg #[.string j.name, .int .i64 j.kind, .int .i64 j.parent, .int .i64 j.off.x, .int .i64 j.off.y, .int .i64 j.off.z, .int .i64 j.lo, .int .i64 j.hi, .int .i64 j.weight, .int .i64 j.speed, .int .i64 j.accel, .int .i64 j.torque]
def abc : ByteArray := ⟨#[97, 98, 99, 100, 101, 102, 103, 104, 105, 106]⟩
def letterB (k : Int) : ByteArray := abc.extract k.toNat (k + 1).toNat
def kindOf (k : Int) : Int := if k = 0 then 3 else if k = 1 then 3 else if k = 2 then 1 else if k = 3 then 2 else if k = 4 then 4 else if k = 5 then 5 else if k = 6 then 3 else 0
def jBase (L : List Int) (p : Nat) (k : Int) : J := ⟨letterB k, kindOf (srcR L (p + 2) 8), if srcR L (p + 3) 4 = 1 then -1 else k - 1, if 0 < k then ⟨131072, srcS L (p + 4) 2 * 32768, srcS L (p + 5) 1 * 32768⟩ else ⟨0, 0, 0⟩, 0, 0, 1 + srcR L p 4, 65536, 65536 + srcR L (p + 1) 3, 327680⟩
def jQ (p : Nat) (k : Int) : Nat := if 0 < k then p + 6 else p + 4
def jointOf (L : List Int) (p : Nat) (k : Int) : J × Nat :=
  if kindOf (srcR L (p + 2) 8) = 0 then (jBase L p k, jQ p k)
  else if kindOf (srcR L (p + 2) 8) = 4 ∨ kindOf (srcR L (p + 2) 8) = 5 then ({ jBase L p k with lo := -srcR L (jQ p k) 3 * 65536, hi := srcR L (jQ p k + 1) 4 * 32768 }, jQ p k + 2)
  else ({ jBase L p k with lo := (-srcR L (jQ p k) 5 * 65536).tdiv 8, hi := ((1 + srcR L (jQ p k + 1) 4) * 65536).tdiv 8 + srcR L (jQ p k + 2) 3 }, jQ p k + 3)
theorem jQ_pos {p : Nat} {k : Int} (h : 0 < k) : jQ p k = p + 6 := if_pos h
theorem jQ_neg {p : Nat} {k : Int} (h : ¬ 0 < k) : jQ p k = p + 4 := if_neg h
theorem jointOf_fix {L : List Int} {p : Nat} {k : Int} (h : kindOf (srcR L (p + 2) 8) = 0) : jointOf L p k = (jBase L p k, jQ p k) := if_pos h
theorem jointOf_sl {L : List Int} {p : Nat} {k : Int} (h : kindOf (srcR L (p + 2) 8) = 4 ∨ kindOf (srcR L (p + 2) 8) = 5) : jointOf L p k = ({ jBase L p k with lo := -srcR L (jQ p k) 3 * 65536, hi := srcR L (jQ p k + 1) 4 * 32768 }, jQ p k + 2) := by
  unfold jointOf
  rw [if_neg (by omega), if_pos h]
theorem jointOf_tu {L : List Int} {p : Nat} {k : Int} (h0 : ¬ kindOf (srcR L (p + 2) 8) = 0) (h : ¬ (kindOf (srcR L (p + 2) 8) = 4 ∨ kindOf (srcR L (p + 2) 8) = 5)) : jointOf L p k = ({ jBase L p k with lo := (-srcR L (jQ p k) 5 * 65536).tdiv 8, hi := ((1 + srcR L (jQ p k + 1) 4) * 65536).tdiv 8 + srcR L (jQ p k + 2) 3 }, jQ p k + 3) := by
  unfold jointOf
  rw [if_neg h0, if_neg h]
theorem jBase_a {L : List Int} {p : Nat} {k : Int} (hp : srcR L (p + 3) 4 = 1) (h : 0 < k) : jBase L p k = ⟨letterB k, kindOf (srcR L (p + 2) 8), -1, ⟨131072, srcS L (p + 4) 2 * 32768, srcS L (p + 5) 1 * 32768⟩, 0, 0, 1 + srcR L p 4, 65536, 65536 + srcR L (p + 1) 3, 327680⟩ := by unfold jBase; rw [if_pos hp, if_pos h]
theorem jBase_b {L : List Int} {p : Nat} {k : Int} (hp : srcR L (p + 3) 4 = 1) (h : ¬ 0 < k) : jBase L p k = ⟨letterB k, kindOf (srcR L (p + 2) 8), -1, ⟨0, 0, 0⟩, 0, 0, 1 + srcR L p 4, 65536, 65536 + srcR L (p + 1) 3, 327680⟩ := by unfold jBase; rw [if_pos hp, if_neg h]
theorem jBase_c {L : List Int} {p : Nat} {k : Int} (hp : ¬ srcR L (p + 3) 4 = 1) (h : 0 < k) : jBase L p k = ⟨letterB k, kindOf (srcR L (p + 2) 8), k - 1, ⟨131072, srcS L (p + 4) 2 * 32768, srcS L (p + 5) 1 * 32768⟩, 0, 0, 1 + srcR L p 4, 65536, 65536 + srcR L (p + 1) 3, 327680⟩ := by unfold jBase; rw [if_neg hp, if_pos h]
theorem jBase_d {L : List Int} {p : Nat} {k : Int} (hp : ¬ srcR L (p + 3) 4 = 1) (h : ¬ 0 < k) : jBase L p k = ⟨letterB k, kindOf (srcR L (p + 2) 8), k - 1, ⟨0, 0, 0⟩, 0, 0, 1 + srcR L p 4, 65536, 65536 + srcR L (p + 1) 3, 327680⟩ := by unfold jBase; rw [if_neg hp, if_neg h]
def nJ (L : List Int) (i : Nat) : Nat := (1 + srcR L i 3).toNat
theorem nJ_b (L : List Int) (i : Nat) : 1 ≤ nJ L i ∧ nJ L i ≤ 3 ∧ ((nJ L i : Nat) : Int) = 1 + srcR L i 3 := by
  have := srcR_bnd L i (k := 3) (by decide)
  unfold nJ
  omega
def jsOf (L : List Int) (i : Nat) : Nat → List J × Nat
  | 0 => ([], i + 1)
  | k + 1 => ((jsOf L i k).1 ++ [(jointOf L (jsOf L i k).2 (k : Int)).1], (jointOf L (jsOf L i k).2 (k : Int)).2)
def jsC (L : List Int) (i k : Nat) : List Value := ((jsOf L i k).1.map jc).flatten
theorem jsC_succ (L : List Int) (i k : Nat) : jsC L i (k + 1) = jsC L i k ++ jc (jointOf L (jsOf L i k).2 (k : Int)).1 := by simp [jsC, jsOf]
theorem jsOf_len (L : List Int) (i : Nat) : ∀ k, (jsOf L i k).1.length = k
  | 0 => rfl
  | k + 1 => by simp [jsOf, jsOf_len L i k]
theorem rows12 (l : List J) : ∀ r ∈ l.map jc, r.length = 12 := fun r hr => by
  obtain ⟨v, _, rfl⟩ := List.mem_map.1 hr
  rfl
theorem js_slc {L : List Int} {i k cap : Nat} {a : Option Addr} {e : TypeId} {w : World} (h : OwnF 0 e 12 a cap k (jsC L i k) w) : SlcIs 12 a ((jsOf L i k).1.map jc) w := by
  refine own_slc (m := 0) (e := e) (cap := cap) (rows12 _) ?_
  rw [List.length_map, jsOf_len]
  exact h
structure Ms where
  link : Int
  mass : Int
  p : Z3
def mc (m : Ms) : List Value := [.int .i64 m.link, .int .i64 m.mass, .int .i64 m.p.x, .int .i64 m.p.y, .int .i64 m.p.z]
def mQ (L : List Int) (i : Nat) : Nat := (jsOf L i (nJ L i)).2
def nM (L : List Int) (i : Nat) : Nat := (srcR L (mQ L i) 3).toNat
theorem nM_b (L : List Int) (i : Nat) : nM L i ≤ 2 ∧ ((nM L i : Nat) : Int) = srcR L (mQ L i) 3 := by
  have := srcR_bnd L (mQ L i) (k := 3) (by decide)
  unfold nM
  omega
def msOf (L : List Int) (i : Nat) : Nat → List Ms
  | 0 => []
  | k + 1 => msOf L i k ++ [⟨srcR L (mQ L i + 1 + 4 * k) (nJ L i), 1 + srcR L (mQ L i + 1 + 4 * k + 1) 9000, ⟨srcS L (mQ L i + 1 + 4 * k + 2) 3 * 32768, 0, srcS L (mQ L i + 1 + 4 * k + 3) 2 * 32768⟩⟩]
def msC (L : List Int) (i k : Nat) : List Value := ((msOf L i k).map mc).flatten
theorem msC_succ (L : List Int) (i k : Nat) : msC L i (k + 1) = msC L i k ++ mc ⟨srcR L (mQ L i + 1 + 4 * k) (nJ L i), 1 + srcR L (mQ L i + 1 + 4 * k + 1) 9000, ⟨srcS L (mQ L i + 1 + 4 * k + 2) 3 * 32768, 0, srcS L (mQ L i + 1 + 4 * k + 3) 2 * 32768⟩⟩ := by simp [msC, msOf]
theorem msOf_len (L : List Int) (i : Nat) : ∀ k, (msOf L i k).length = k
  | 0 => rfl
  | k + 1 => by simp [msOf, msOf_len L i k]
theorem rows5 (l : List Ms) : ∀ r ∈ l.map mc, r.length = 5 := fun r hr => by
  obtain ⟨v, _, rfl⟩ := List.mem_map.1 hr
  rfl
theorem ms_slc {L : List Int} {i k cap : Nat} {a : Option Addr} {e : TypeId} {w : World} (h : OwnF 0 e 5 a cap k (msC L i k) w) : SlcIs 5 a ((msOf L i k).map mc) w := by
  refine own_slc (m := 0) (e := e) (cap := cap) (rows5 _) ?_
  rw [List.length_map, msOf_len]
  exact h
def robQ (L : List Int) (i : Nat) : Nat := mQ L i + 1 + 4 * nM L i
structure Sp where
  link : Int
  radius : Int
  pts : List Z3
end Go.Sx
namespace Go.Sx
open Go.RowKit
structure Cn where
  kind : Int
  link : Int
  p : Z3
  n : Z3
  lo : Int
  hi : Int
section
variable {nf : Int → Int → Int → Z3} {L : List Int} {m : Int} {k q : Nat} {l : List Cn} {a0 a1 a2 a3 a4 a5 a6 a7 a8 a9 b0 b1 : Int} {z : Z3}
end
end Go.Sx

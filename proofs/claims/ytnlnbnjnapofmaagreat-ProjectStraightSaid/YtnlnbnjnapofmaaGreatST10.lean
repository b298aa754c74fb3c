/- Part 10 of the texts behind the last one: rules and contracts. No condition. -/
import Derived.Test.YtnlnbnjnapofmaaGreatST9
namespace Go.Proofs.YtnlnbnjnapofmaaGreat
open Go.Sx
theorem en171 : Enters Tryz.prog 171 := yW Tryz.func171 (by kernel_rfl) (by kernel_rfl)
set_option maxRecDepth 100000 in
theorem mCompose (p0 p1 p2 p3 p4 p5 p6 p7 p8 p9 p10 p11 p12 p13 p14 p15 p16 p17 : Int) (q0 q1 q2 q3 q4 q5 q6 q7 q8 q9 q10 q11 q12 q13 q14 q15 q16 q17 : Int) (w : World) : Calls Tryz.prog 160 [.agg #[.int .i64 p0, .int .i64 p1, .int .i64 p2, .int .i64 p3, .int .i64 p4, .int .i64 p5, .int .i64 p6, .int .i64 p7, .int .i64 p8, .int .i64 p9, .int .i64 p10, .int .i64 p11, .int .i64 p12, .int .i64 p13, .int .i64 p14, .int .i64 p15, .int .i64 p16, .int .i64 p17], .agg #[.int .i64 q0, .int .i64 q1, .int .i64 q2, .int .i64 q3, .int .i64 q4, .int .i64 q5, .int .i64 q6, .int .i64 q7, .int .i64 q8, .int .i64 q9, .int .i64 q10, .int .i64 q11, .int .i64 q12, .int .i64 q13, .int .i64 q14, .int .i64 q15, .int .i64 q16, .int .i64 q17]].toArray w (Rets (m3 (M3.mul (⟨⟨⟨p0, p1⟩, ⟨p2, p3⟩, ⟨p4, p5⟩⟩, ⟨⟨p6, p7⟩, ⟨p8, p9⟩, ⟨p10, p11⟩⟩, ⟨⟨p12, p13⟩, ⟨p14, p15⟩, ⟨p16, p17⟩⟩⟩ : M3) (⟨⟨⟨q0, q1⟩, ⟨q2, q3⟩, ⟨q4, q5⟩⟩, ⟨⟨q6, q7⟩, ⟨q8, q9⟩, ⟨q10, q11⟩⟩, ⟨⟨q12, q13⟩, ⟨q14, q15⟩, ⟨q16, q17⟩⟩⟩ : M3))) (w)) := by
  refine yQ (n := 47) Tryz.func160 rfl rfl rfl ?_
  refine qJ ?_
  refine qZ ?_
  refine kK 2 rfl rfl rfl rfl ?_; intro b2
  refine kK 3 rfl rfl rfl rfl ?_; intro b3
  refine jZ 4 ze132 rfl rfl rfl ?_; intro b4
  refine qU ?_
  refine qQ ?_
  refine qJ ?_
  refine qZ ?_
  refine jZ 5 ze132 rfl rfl rfl ?_; intro b5
  refine qU ?_
  refine qQ ?_
  refine qJ ?_
  refine qJ ?_
  refine qZ ?_
  refine qK (qY rfl) rfl rfl rfl ?_
  refine qU ?_
  refine qQ ?_
  refine zK ?_
  refine kX 4 ?_
  refine yZ ?_
  refine qJ ?_
  refine qZ ?_
  refine qK (yK rfl rfl) rfl rfl rfl ?_
  refine qU ?_
  refine qQ ?_
  refine qJ ?_
  refine zV rfl (by decide) ?_
  refine zU ?_
  refine qQ ?_
  refine qJ ?_
  refine zK ?_
  refine qJ ?_
  refine qZ ?_
  refine qK (qY rfl) rfl rfl rfl ?_
  refine qK (qW rfl) rfl rfl rfl ?_
  refine qU ?_
  refine qQ ?_
  refine qJ ?_
  refine qZ ?_
  refine qK (qY rfl) rfl rfl rfl ?_
  refine qU ?_
  refine qQ ?_
  refine zK ?_
  refine kX 4 ?_
  refine yZ ?_
  refine qJ ?_
  refine qZ ?_
  refine qK (yK rfl rfl) rfl rfl rfl ?_
  refine qU ?_
  refine qQ ?_
  refine qJ ?_
  refine zV rfl (by decide) ?_
  refine zU ?_
  refine qQ ?_
  refine qJ ?_
  refine zK ?_
  refine qJ ?_
  refine qZ ?_
  refine qK (qY rfl) rfl rfl rfl ?_
  refine qK (qW rfl) rfl rfl rfl ?_
  refine qU ?_
  refine qQ ?_
  refine qJ ?_
  refine doC_keepH (ks := [2, 3, 4, 5]) rfl ?_
  refine qZ ?_
  refine jZ 8 ze88 rfl rfl rfl ?_; intro b8
  refine qU ?_
  refine qQ ?_
  refine qJ ?_
  refine qJ ?_
  refine qZ ?_
  refine qK (qY rfl) rfl rfl rfl ?_
  refine qU ?_
  refine qQ ?_
  refine zK ?_
  refine kX 4 ?_
  refine yZ ?_
  refine qJ ?_
  refine qZ ?_
  refine qK (yK rfl rfl) rfl rfl rfl ?_
  refine qU ?_
  refine qQ ?_
  refine qJ ?_
  refine zV rfl (by decide) ?_
  refine zU ?_
  refine qQ ?_
  refine qJ ?_
  refine zK ?_
  refine qJ ?_
  refine qZ ?_
  refine qK (qY rfl) rfl rfl rfl ?_
  refine qK (qW rfl) rfl rfl rfl ?_
  refine qU ?_
  refine qQ ?_
  refine jY (ks := [2, 3, 4, 5, 6, 7, 8, 9, 10, 13, 16]) rfl ?_
  refine yX 13 mo (by kernel_rfl) ?_
  simp only [List.take_succ_cons, List.take_zero, List.drop_succ_cons, List.drop_zero]
  refine qG (zQ 8 ty88 rfl rfl rfl) rfl rfl rfl ?_
  refine qG (qY rfl) rfl rfl rfl ?_
  refine qG (qY rfl) rfl rfl rfl ?_
  refine qG (qX ar132 rfl rfl (by first | decide | omega) (by first | decide | omega)) rfl rfl rfl ?_
  refine qG (qX ar126 rfl rfl (by first | decide | omega) (by first | decide | omega)) rfl rfl rfl ?_
  refine qG (zQ 2 ty88 rfl rfl rfl) rfl rfl rfl ?_
  refine qG (qY rfl) rfl rfl rfl ?_
  refine qG (qY rfl) rfl rfl rfl ?_
  refine qG (qX ar132 rfl rfl (by first | decide | omega) (by first | decide | omega)) rfl rfl rfl ?_
  refine qG (qX ar126 rfl rfl (by first | decide | omega) (by first | decide | omega)) rfl rfl rfl ?_
  refine qG (zQ 3 ty88 rfl rfl rfl) rfl rfl rfl ?_
  refine yG (F := iv) (zY en162 rfl (fun w _ => iMul _ _ _ _  w)) rfl rfl rfl ?_; intro r30 hr30
  refine yG (F := iv) (zY en161 rfl (fun w _ => iAdd _ _ _ _  w)) rfl rfl rfl ?_; intro r31 hr31
  refine jK ?_
  refine yV ?_
  refine zZ 8 ty88 rfl rfl rfl rfl rfl rfl rfl rfl ?_
  refine qU ?_
  refine qV ?_
  refine qQ ?_
  refine qZ ?_
  refine qK (yJ rfl rfl (by first | exact zG ⟨by omega, by omega⟩ | rfl)) rfl rfl rfl ?_
  refine qK (qY rfl) rfl rfl rfl ?_
  refine qU ?_
  refine zW ?_
  refine yZ ?_
  refine qJ ?_
  refine qZ ?_
  refine qK (yK rfl rfl) rfl rfl rfl ?_
  refine qU ?_
  refine qQ ?_
  refine qJ ?_
  refine zV rfl (by decide) ?_
  refine zU ?_
  refine qQ ?_
  refine qJ ?_
  refine zK ?_
  refine qJ ?_
  refine qZ ?_
  refine qK (qY rfl) rfl rfl rfl ?_
  refine qK (qW rfl) rfl rfl rfl ?_
  refine qU ?_
  refine qQ ?_
  refine jY (ks := [2, 3, 4, 5, 6, 7, 8, 9, 10, 13, 16]) rfl ?_
  refine yX 13 mo (by kernel_rfl) ?_
  simp only [List.take_succ_cons, List.take_zero, List.drop_succ_cons, List.drop_zero]
  refine qG (zQ 8 ty88 rfl rfl rfl) rfl rfl rfl ?_
  refine qG (qY rfl) rfl rfl rfl ?_
  refine qG (qY rfl) rfl rfl rfl ?_
  refine qG (qX ar132 rfl rfl (by first | decide | omega) (by first | decide | omega)) rfl rfl rfl ?_
  refine qG (qX ar126 rfl rfl (by first | decide | omega) (by first | decide | omega)) rfl rfl rfl ?_
  refine qG (zQ 2 ty88 rfl rfl rfl) rfl rfl rfl ?_
  refine qG (qY rfl) rfl rfl rfl ?_
  refine qG (qY rfl) rfl rfl rfl ?_
  refine qG (qX ar132 rfl rfl (by first | decide | omega) (by first | decide | omega)) rfl rfl rfl ?_
  refine qG (qX ar126 rfl rfl (by first | decide | omega) (by first | decide | omega)) rfl rfl rfl ?_
  refine qG (zQ 3 ty88 rfl rfl rfl) rfl rfl rfl ?_
  refine yG (F := iv) (zY en162 rfl (fun w _ => iMul _ _ _ _  w)) rfl rfl rfl ?_; intro r30_2 hr30_2
  refine yG (F := iv) (zY en161 rfl (fun w _ => iAdd _ _ _ _  w)) rfl rfl rfl ?_; intro r31_2 hr31_2
  refine jK ?_
  refine yV ?_
  refine zZ 8 ty88 rfl rfl rfl rfl rfl rfl rfl rfl ?_
  refine qU ?_
  refine qV ?_
  refine qQ ?_
  refine qZ ?_
  refine qK (yJ rfl rfl (by first | exact zG ⟨by omega, by omega⟩ | rfl)) rfl rfl rfl ?_
  refine qK (qY rfl) rfl rfl rfl ?_
  refine qU ?_
  refine zW ?_
  refine yZ ?_
  refine qJ ?_
  refine qZ ?_
  refine qK (yK rfl rfl) rfl rfl rfl ?_
  refine qU ?_
  refine qQ ?_
  refine qJ ?_
  refine zV rfl (by decide) ?_
  refine zU ?_
  refine qQ ?_
  refine qJ ?_
  refine zK ?_
  refine qJ ?_
  refine qZ ?_
  refine qK (qY rfl) rfl rfl rfl ?_
  refine qK (qW rfl) rfl rfl rfl ?_
  refine qU ?_
  refine qQ ?_
  refine jY (ks := [2, 3, 4, 5, 6, 7, 8, 9, 10, 13, 16]) rfl ?_
  refine yX 13 mo (by kernel_rfl) ?_
  simp only [List.take_succ_cons, List.take_zero, List.drop_succ_cons, List.drop_zero]
  refine qG (zQ 8 ty88 rfl rfl rfl) rfl rfl rfl ?_
  refine qG (qY rfl) rfl rfl rfl ?_
  refine qG (qY rfl) rfl rfl rfl ?_
  refine qG (qX ar132 rfl rfl (by first | decide | omega) (by first | decide | omega)) rfl rfl rfl ?_
  refine qG (qX ar126 rfl rfl (by first | decide | omega) (by first | decide | omega)) rfl rfl rfl ?_
  refine qG (zQ 2 ty88 rfl rfl rfl) rfl rfl rfl ?_
  refine qG (qY rfl) rfl rfl rfl ?_
  refine qG (qY rfl) rfl rfl rfl ?_
  refine qG (qX ar132 rfl rfl (by first | decide | omega) (by first | decide | omega)) rfl rfl rfl ?_
  refine qG (qX ar126 rfl rfl (by first | decide | omega) (by first | decide | omega)) rfl rfl rfl ?_
  refine qG (zQ 3 ty88 rfl rfl rfl) rfl rfl rfl ?_
  refine yG (F := iv) (zY en162 rfl (fun w _ => iMul _ _ _ _  w)) rfl rfl rfl ?_; intro r30_3 hr30_3
  refine yG (F := iv) (zY en161 rfl (fun w _ => iAdd _ _ _ _  w)) rfl rfl rfl ?_; intro r31_3 hr31_3
  refine jK ?_
  refine yV ?_
  refine zZ 8 ty88 rfl rfl rfl rfl rfl rfl rfl rfl ?_
  refine qU ?_
  refine qV ?_
  refine qQ ?_
  refine qZ ?_
  refine qK (yJ rfl rfl (by first | exact zG ⟨by omega, by omega⟩ | rfl)) rfl rfl rfl ?_
  refine qK (qY rfl) rfl rfl rfl ?_
  refine qU ?_
  refine zW ?_
  refine yZ ?_
  refine qJ ?_
  refine qZ ?_
  refine qK (yK rfl rfl) rfl rfl rfl ?_
  refine qU ?_
  refine qQ ?_
  refine qJ ?_
  refine jW rfl (by decide) ?_
  refine kH ?_
  refine zX ?_
  refine zX ?_
  refine yH ?_
  refine qQ ?_
  refine jY (ks := [2, 3, 4, 5, 6, 7, 8, 9, 10, 13, 16]) rfl ?_
  refine yX 11 mo (by kernel_rfl) ?_
  simp only [List.take_succ_cons, List.take_zero, List.drop_succ_cons, List.drop_zero]
  refine qG (qY rfl) rfl rfl rfl ?_
  refine qG (qY rfl) rfl rfl rfl ?_
  refine qG (qH fa88_0 rfl) rfl rfl rfl ?_
  refine qG (zJ 8 ty2 rfl rfl rfl) rfl rfl rfl ?_
  refine yG (F := vI) (zY en171 rfl (fun w _ => mLimited _  w)) rfl rfl rfl ?_; intro r37 hr37
  refine qG (qH fa88_1 rfl) rfl rfl rfl ?_
  refine qG (zJ 8 ty2 rfl rfl rfl) rfl rfl rfl ?_
  refine yG (F := vI) (zY en171 rfl (fun w _ => mLimited _  w)) rfl rfl rfl ?_; intro r40 hr40
  refine qG (jV la88 rfl rfl) rfl rfl rfl ?_
  refine qG (qX ar132 rfl rfl (by first | decide | omega) (by first | decide | omega)) rfl rfl rfl ?_
  refine qG (qX ar126 rfl rfl (by first | decide | omega) (by first | decide | omega)) rfl rfl rfl ?_
  refine jK ?_
  refine yV ?_
  refine zZ 5 ty88 rfl rfl rfl rfl rfl rfl rfl rfl ?_
  refine qU ?_
  refine qV ?_
  refine qQ ?_
  refine qZ ?_
  refine qK (yJ rfl rfl (by first | exact zG ⟨by omega, by omega⟩ | rfl)) rfl rfl rfl ?_
  refine qK (qY rfl) rfl rfl rfl ?_
  refine qU ?_
  refine zW ?_
  refine yZ ?_
  refine qJ ?_
  refine qZ ?_
  refine qK (yK rfl rfl) rfl rfl rfl ?_
  refine qU ?_
  refine qQ ?_
  refine qJ ?_
  refine zV rfl (by decide) ?_
  refine zU ?_
  refine qQ ?_
  refine qJ ?_
  refine zK ?_
  refine qJ ?_
  refine qZ ?_
  refine qK (qY rfl) rfl rfl rfl ?_
  refine qK (qW rfl) rfl rfl rfl ?_
  refine qU ?_
  refine qQ ?_
  refine qJ ?_
  refine doC_keepH (ks := [2, 3, 4, 5]) rfl ?_
  refine qZ ?_
  refine jZ 8 ze88 rfl rfl rfl ?_; intro b8_2
  refine qU ?_
  refine qQ ?_
  refine qJ ?_
  refine qJ ?_
  refine qZ ?_
  refine qK (qY rfl) rfl rfl rfl ?_
  refine qU ?_
  refine qQ ?_
  refine zK ?_
  refine kX 4 ?_
  refine yZ ?_
  refine qJ ?_
  refine qZ ?_
  refine qK (yK rfl rfl) rfl rfl rfl ?_
  refine qU ?_
  refine qQ ?_
  refine qJ ?_
  refine zV rfl (by decide) ?_
  refine zU ?_
  refine qQ ?_
  refine qJ ?_
  refine zK ?_
  refine qJ ?_
  refine qZ ?_
  refine qK (qY rfl) rfl rfl rfl ?_
  refine qK (qW rfl) rfl rfl rfl ?_
  refine qU ?_
  refine qQ ?_
  refine jY (ks := [2, 3, 4, 5, 6, 7, 8, 9, 10, 13, 16]) rfl ?_
  refine yX 13 mo (by kernel_rfl) ?_
  simp only [List.take_succ_cons, List.take_zero, List.drop_succ_cons, List.drop_zero]
  refine qG (zQ 8 ty88 rfl rfl rfl) rfl rfl rfl ?_
  refine qG (qY rfl) rfl rfl rfl ?_
  refine qG (qY rfl) rfl rfl rfl ?_
  refine qG (qX ar132 rfl rfl (by first | decide | omega) (by first | decide | omega)) rfl rfl rfl ?_
  refine qG (qX ar126 rfl rfl (by first | decide | omega) (by first | decide | omega)) rfl rfl rfl ?_
  refine qG (zQ 2 ty88 rfl rfl rfl) rfl rfl rfl ?_
  refine qG (qY rfl) rfl rfl rfl ?_
  refine qG (qY rfl) rfl rfl rfl ?_
  refine qG (qX ar132 rfl rfl (by first | decide | omega) (by first | decide | omega)) rfl rfl rfl ?_
  refine qG (qX ar126 rfl rfl (by first | decide | omega) (by first | decide | omega)) rfl rfl rfl ?_
  refine qG (zQ 3 ty88 rfl rfl rfl) rfl rfl rfl ?_
  refine yG (F := iv) (zY en162 rfl (fun w _ => iMul _ _ _ _  w)) rfl rfl rfl ?_; intro r30_4 hr30_4
  refine yG (F := iv) (zY en161 rfl (fun w _ => iAdd _ _ _ _  w)) rfl rfl rfl ?_; intro r31_4 hr31_4
  refine jK ?_
  refine yV ?_
  refine zZ 8 ty88 rfl rfl rfl rfl rfl rfl rfl rfl ?_
  refine qU ?_
  refine qV ?_
  refine qQ ?_
  refine qZ ?_
  refine qK (yJ rfl rfl (by first | exact zG ⟨by omega, by omega⟩ | rfl)) rfl rfl rfl ?_
  refine qK (qY rfl) rfl rfl rfl ?_
  refine qU ?_
  refine zW ?_
  refine yZ ?_
  refine qJ ?_
  refine qZ ?_
  refine qK (yK rfl rfl) rfl rfl rfl ?_
  refine qU ?_
  refine qQ ?_
  refine qJ ?_
  refine zV rfl (by decide) ?_
  refine zU ?_
  refine qQ ?_
  refine qJ ?_
  refine zK ?_
  refine qJ ?_
  refine qZ ?_
  refine qK (qY rfl) rfl rfl rfl ?_
  refine qK (qW rfl) rfl rfl rfl ?_
  refine qU ?_
  refine qQ ?_
  refine jY (ks := [2, 3, 4, 5, 6, 7, 8, 9, 10, 13, 16]) rfl ?_
  refine yX 13 mo (by kernel_rfl) ?_
  simp only [List.take_succ_cons, List.take_zero, List.drop_succ_cons, List.drop_zero]
  refine qG (zQ 8 ty88 rfl rfl rfl) rfl rfl rfl ?_
  refine qG (qY rfl) rfl rfl rfl ?_
  refine qG (qY rfl) rfl rfl rfl ?_
  refine qG (qX ar132 rfl rfl (by first | decide | omega) (by first | decide | omega)) rfl rfl rfl ?_
  refine qG (qX ar126 rfl rfl (by first | decide | omega) (by first | decide | omega)) rfl rfl rfl ?_
  refine qG (zQ 2 ty88 rfl rfl rfl) rfl rfl rfl ?_
  refine qG (qY rfl) rfl rfl rfl ?_
  refine qG (qY rfl) rfl rfl rfl ?_
  refine qG (qX ar132 rfl rfl (by first | decide | omega) (by first | decide | omega)) rfl rfl rfl ?_
  refine qG (qX ar126 rfl rfl (by first | decide | omega) (by first | decide | omega)) rfl rfl rfl ?_
  refine qG (zQ 3 ty88 rfl rfl rfl) rfl rfl rfl ?_
  refine yG (F := iv) (zY en162 rfl (fun w _ => iMul _ _ _ _  w)) rfl rfl rfl ?_; intro r30_5 hr30_5
  refine yG (F := iv) (zY en161 rfl (fun w _ => iAdd _ _ _ _  w)) rfl rfl rfl ?_; intro r31_5 hr31_5
  refine jK ?_
  refine yV ?_
  refine zZ 8 ty88 rfl rfl rfl rfl rfl rfl rfl rfl ?_
  refine qU ?_
  refine qV ?_
  refine qQ ?_
  refine qZ ?_
  refine qK (yJ rfl rfl (by first | exact zG ⟨by omega, by omega⟩ | rfl)) rfl rfl rfl ?_
  refine qK (qY rfl) rfl rfl rfl ?_
  refine qU ?_
  refine zW ?_
  refine yZ ?_
  refine qJ ?_
  refine qZ ?_
  refine qK (yK rfl rfl) rfl rfl rfl ?_
  refine qU ?_
  refine qQ ?_
  refine qJ ?_
  refine zV rfl (by decide) ?_
  refine zU ?_
  refine qQ ?_
  refine qJ ?_
  refine zK ?_
  refine qJ ?_
  refine qZ ?_
  refine qK (qY rfl) rfl rfl rfl ?_
  refine qK (qW rfl) rfl rfl rfl ?_
  refine qU ?_
  refine qQ ?_
  refine jY (ks := [2, 3, 4, 5, 6, 7, 8, 9, 10, 13, 16]) rfl ?_
  refine yX 13 mo (by kernel_rfl) ?_
  simp only [List.take_succ_cons, List.take_zero, List.drop_succ_cons, List.drop_zero]
  refine qG (zQ 8 ty88 rfl rfl rfl) rfl rfl rfl ?_
  refine qG (qY rfl) rfl rfl rfl ?_
  refine qG (qY rfl) rfl rfl rfl ?_
  refine qG (qX ar132 rfl rfl (by first | decide | omega) (by first | decide | omega)) rfl rfl rfl ?_
  refine qG (qX ar126 rfl rfl (by first | decide | omega) (by first | decide | omega)) rfl rfl rfl ?_
  refine qG (zQ 2 ty88 rfl rfl rfl) rfl rfl rfl ?_
  refine qG (qY rfl) rfl rfl rfl ?_
  refine qG (qY rfl) rfl rfl rfl ?_
  refine qG (qX ar132 rfl rfl (by first | decide | omega) (by first | decide | omega)) rfl rfl rfl ?_
  refine qG (qX ar126 rfl rfl (by first | decide | omega) (by first | decide | omega)) rfl rfl rfl ?_
  refine qG (zQ 3 ty88 rfl rfl rfl) rfl rfl rfl ?_
  refine yG (F := iv) (zY en162 rfl (fun w _ => iMul _ _ _ _  w)) rfl rfl rfl ?_; intro r30_6 hr30_6
  refine yG (F := iv) (zY en161 rfl (fun w _ => iAdd _ _ _ _  w)) rfl rfl rfl ?_; intro r31_6 hr31_6
  refine jK ?_
  refine yV ?_
  refine zZ 8 ty88 rfl rfl rfl rfl rfl rfl rfl rfl ?_
  refine qU ?_
  refine qV ?_
  refine qQ ?_
  refine qZ ?_
  refine qK (yJ rfl rfl (by first | exact zG ⟨by omega, by omega⟩ | rfl)) rfl rfl rfl ?_
  refine qK (qY rfl) rfl rfl rfl ?_
  refine qU ?_
  refine zW ?_
  refine yZ ?_
  refine qJ ?_
  refine qZ ?_
  refine qK (yK rfl rfl) rfl rfl rfl ?_
  refine qU ?_
  refine qQ ?_
  refine qJ ?_
  refine jW rfl (by decide) ?_
  refine kH ?_
  refine zX ?_
  refine zX ?_
  refine yH ?_
  refine qQ ?_
  refine jY (ks := [2, 3, 4, 5, 6, 7, 8, 9, 10, 13, 16]) rfl ?_
  refine yX 11 mo (by kernel_rfl) ?_
  simp only [List.take_succ_cons, List.take_zero, List.drop_succ_cons, List.drop_zero]
  refine qG (qY rfl) rfl rfl rfl ?_
  refine qG (qY rfl) rfl rfl rfl ?_
  refine qG (qH fa88_0 rfl) rfl rfl rfl ?_
  refine qG (zJ 8 ty2 rfl rfl rfl) rfl rfl rfl ?_
  refine yG (F := vI) (zY en171 rfl (fun w _ => mLimited _  w)) rfl rfl rfl ?_; intro r37_2 hr37_2
  refine qG (qH fa88_1 rfl) rfl rfl rfl ?_
  refine qG (zJ 8 ty2 rfl rfl rfl) rfl rfl rfl ?_
  refine yG (F := vI) (zY en171 rfl (fun w _ => mLimited _  w)) rfl rfl rfl ?_; intro r40_2 hr40_2
  refine qG (jV la88 rfl rfl) rfl rfl rfl ?_
  refine qG (qX ar132 rfl rfl (by first | decide | omega) (by first | decide | omega)) rfl rfl rfl ?_
  refine qG (qX ar126 rfl rfl (by first | decide | omega) (by first | decide | omega)) rfl rfl rfl ?_
  refine jK ?_
  refine yV ?_
  refine zZ 5 ty88 rfl rfl rfl rfl rfl rfl rfl rfl ?_
  refine qU ?_
  refine qV ?_
  refine qQ ?_
  refine qZ ?_
  refine qK (yJ rfl rfl (by first | exact zG ⟨by omega, by omega⟩ | rfl)) rfl rfl rfl ?_
  refine qK (qY rfl) rfl rfl rfl ?_
  refine qU ?_
  refine zW ?_
  refine yZ ?_
  refine qJ ?_
  refine qZ ?_
  refine qK (yK rfl rfl) rfl rfl rfl ?_
  refine qU ?_
  refine qQ ?_
  refine qJ ?_
  refine zV rfl (by decide) ?_
  refine zU ?_
  refine qQ ?_
  refine qJ ?_
  refine zK ?_
  refine qJ ?_
  refine qZ ?_
  refine qK (qY rfl) rfl rfl rfl ?_
  refine qK (qW rfl) rfl rfl rfl ?_
  refine qU ?_
  refine qQ ?_
  refine qJ ?_
  refine doC_keepH (ks := [2, 3, 4, 5]) rfl ?_
  refine qZ ?_
  refine jZ 8 ze88 rfl rfl rfl ?_; intro b8_3
  refine qU ?_
  refine qQ ?_
  refine qJ ?_
  refine qJ ?_
  refine qZ ?_
  refine qK (qY rfl) rfl rfl rfl ?_
  refine qU ?_
  refine qQ ?_
  refine zK ?_
  refine kX 4 ?_
  refine yZ ?_
  refine qJ ?_
  refine qZ ?_
  refine qK (yK rfl rfl) rfl rfl rfl ?_
  refine qU ?_
  refine qQ ?_
  refine qJ ?_
  refine zV rfl (by decide) ?_
  refine zU ?_
  refine qQ ?_
  refine qJ ?_
  refine zK ?_
  refine qJ ?_
  refine qZ ?_
  refine qK (qY rfl) rfl rfl rfl ?_
  refine qK (qW rfl) rfl rfl rfl ?_
  refine qU ?_
  refine qQ ?_
  refine jY (ks := [2, 3, 4, 5, 6, 7, 8, 9, 10, 13, 16]) rfl ?_
  refine yX 13 mo (by kernel_rfl) ?_
  simp only [List.take_succ_cons, List.take_zero, List.drop_succ_cons, List.drop_zero]
  refine qG (zQ 8 ty88 rfl rfl rfl) rfl rfl rfl ?_
  refine qG (qY rfl) rfl rfl rfl ?_
  refine qG (qY rfl) rfl rfl rfl ?_
  refine qG (qX ar132 rfl rfl (by first | decide | omega) (by first | decide | omega)) rfl rfl rfl ?_
  refine qG (qX ar126 rfl rfl (by first | decide | omega) (by first | decide | omega)) rfl rfl rfl ?_
  refine qG (zQ 2 ty88 rfl rfl rfl) rfl rfl rfl ?_
  refine qG (qY rfl) rfl rfl rfl ?_
  refine qG (qY rfl) rfl rfl rfl ?_
  refine qG (qX ar132 rfl rfl (by first | decide | omega) (by first | decide | omega)) rfl rfl rfl ?_
  refine qG (qX ar126 rfl rfl (by first | decide | omega) (by first | decide | omega)) rfl rfl rfl ?_
  refine qG (zQ 3 ty88 rfl rfl rfl) rfl rfl rfl ?_
  refine yG (F := iv) (zY en162 rfl (fun w _ => iMul _ _ _ _  w)) rfl rfl rfl ?_; intro r30_7 hr30_7
  refine yG (F := iv) (zY en161 rfl (fun w _ => iAdd _ _ _ _  w)) rfl rfl rfl ?_; intro r31_7 hr31_7
  refine jK ?_
  refine yV ?_
  refine zZ 8 ty88 rfl rfl rfl rfl rfl rfl rfl rfl ?_
  refine qU ?_
  refine qV ?_
  refine qQ ?_
  refine qZ ?_
  refine qK (yJ rfl rfl (by first | exact zG ⟨by omega, by omega⟩ | rfl)) rfl rfl rfl ?_
  refine qK (qY rfl) rfl rfl rfl ?_
  refine qU ?_
  refine zW ?_
  refine yZ ?_
  refine qJ ?_
  refine qZ ?_
  refine qK (yK rfl rfl) rfl rfl rfl ?_
  refine qU ?_
  refine qQ ?_
  refine qJ ?_
  refine zV rfl (by decide) ?_
  refine zU ?_
  refine qQ ?_
  refine qJ ?_
  refine zK ?_
  refine qJ ?_
  refine qZ ?_
  refine qK (qY rfl) rfl rfl rfl ?_
  refine qK (qW rfl) rfl rfl rfl ?_
  refine qU ?_
  refine qQ ?_
  refine jY (ks := [2, 3, 4, 5, 6, 7, 8, 9, 10, 13, 16]) rfl ?_
  refine yX 13 mo (by kernel_rfl) ?_
  simp only [List.take_succ_cons, List.take_zero, List.drop_succ_cons, List.drop_zero]
  refine qG (zQ 8 ty88 rfl rfl rfl) rfl rfl rfl ?_
  refine qG (qY rfl) rfl rfl rfl ?_
  refine qG (qY rfl) rfl rfl rfl ?_
  refine qG (qX ar132 rfl rfl (by first | decide | omega) (by first | decide | omega)) rfl rfl rfl ?_
  refine qG (qX ar126 rfl rfl (by first | decide | omega) (by first | decide | omega)) rfl rfl rfl ?_
  refine qG (zQ 2 ty88 rfl rfl rfl) rfl rfl rfl ?_
  refine qG (qY rfl) rfl rfl rfl ?_
  refine qG (qY rfl) rfl rfl rfl ?_
  refine qG (qX ar132 rfl rfl (by first | decide | omega) (by first | decide | omega)) rfl rfl rfl ?_
  refine qG (qX ar126 rfl rfl (by first | decide | omega) (by first | decide | omega)) rfl rfl rfl ?_
  refine qG (zQ 3 ty88 rfl rfl rfl) rfl rfl rfl ?_
  refine yG (F := iv) (zY en162 rfl (fun w _ => iMul _ _ _ _  w)) rfl rfl rfl ?_; intro r30_8 hr30_8
  refine yG (F := iv) (zY en161 rfl (fun w _ => iAdd _ _ _ _  w)) rfl rfl rfl ?_; intro r31_8 hr31_8
  refine jK ?_
  refine yV ?_
  refine zZ 8 ty88 rfl rfl rfl rfl rfl rfl rfl rfl ?_
  refine qU ?_
  refine qV ?_
  refine qQ ?_
  refine qZ ?_
  refine qK (yJ rfl rfl (by first | exact zG ⟨by omega, by omega⟩ | rfl)) rfl rfl rfl ?_
  refine qK (qY rfl) rfl rfl rfl ?_
  refine qU ?_
  refine zW ?_
  refine yZ ?_
  refine qJ ?_
  refine qZ ?_
  refine qK (yK rfl rfl) rfl rfl rfl ?_
  refine qU ?_
  refine qQ ?_
  refine qJ ?_
  refine zV rfl (by decide) ?_
  refine zU ?_
  refine qQ ?_
  refine qJ ?_
  refine zK ?_
  refine qJ ?_
  refine qZ ?_
  refine qK (qY rfl) rfl rfl rfl ?_
  refine qK (qW rfl) rfl rfl rfl ?_
  refine qU ?_
  refine qQ ?_
  refine jY (ks := [2, 3, 4, 5, 6, 7, 8, 9, 10, 13, 16]) rfl ?_
  refine yX 13 mo (by kernel_rfl) ?_
  simp only [List.take_succ_cons, List.take_zero, List.drop_succ_cons, List.drop_zero]
  refine qG (zQ 8 ty88 rfl rfl rfl) rfl rfl rfl ?_
  refine qG (qY rfl) rfl rfl rfl ?_
  refine qG (qY rfl) rfl rfl rfl ?_
  refine qG (qX ar132 rfl rfl (by first | decide | omega) (by first | decide | omega)) rfl rfl rfl ?_
  refine qG (qX ar126 rfl rfl (by first | decide | omega) (by first | decide | omega)) rfl rfl rfl ?_
  refine qG (zQ 2 ty88 rfl rfl rfl) rfl rfl rfl ?_
  refine qG (qY rfl) rfl rfl rfl ?_
  refine qG (qY rfl) rfl rfl rfl ?_
  refine qG (qX ar132 rfl rfl (by first | decide | omega) (by first | decide | omega)) rfl rfl rfl ?_
  refine qG (qX ar126 rfl rfl (by first | decide | omega) (by first | decide | omega)) rfl rfl rfl ?_
  refine qG (zQ 3 ty88 rfl rfl rfl) rfl rfl rfl ?_
  refine yG (F := iv) (zY en162 rfl (fun w _ => iMul _ _ _ _  w)) rfl rfl rfl ?_; intro r30_9 hr30_9
  refine yG (F := iv) (zY en161 rfl (fun w _ => iAdd _ _ _ _  w)) rfl rfl rfl ?_; intro r31_9 hr31_9
  refine jK ?_
  refine yV ?_
  refine zZ 8 ty88 rfl rfl rfl rfl rfl rfl rfl rfl ?_
  refine qU ?_
  refine qV ?_
  refine qQ ?_
  refine qZ ?_
  refine qK (yJ rfl rfl (by first | exact zG ⟨by omega, by omega⟩ | rfl)) rfl rfl rfl ?_
  refine qK (qY rfl) rfl rfl rfl ?_
  refine qU ?_
  refine zW ?_
  refine yZ ?_
  refine qJ ?_
  refine qZ ?_
  refine qK (yK rfl rfl) rfl rfl rfl ?_
  refine qU ?_
  refine qQ ?_
  refine qJ ?_
  refine jW rfl (by decide) ?_
  refine kH ?_
  refine zX ?_
  refine zX ?_
  refine yH ?_
  refine qQ ?_
  refine jY (ks := [2, 3, 4, 5, 6, 7, 8, 9, 10, 13, 16]) rfl ?_
  refine yX 11 mo (by kernel_rfl) ?_
  simp only [List.take_succ_cons, List.take_zero, List.drop_succ_cons, List.drop_zero]
  refine qG (qY rfl) rfl rfl rfl ?_
  refine qG (qY rfl) rfl rfl rfl ?_
  refine qG (qH fa88_0 rfl) rfl rfl rfl ?_
  refine qG (zJ 8 ty2 rfl rfl rfl) rfl rfl rfl ?_
  refine yG (F := vI) (zY en171 rfl (fun w _ => mLimited _  w)) rfl rfl rfl ?_; intro r37_3 hr37_3
  refine qG (qH fa88_1 rfl) rfl rfl rfl ?_
  refine qG (zJ 8 ty2 rfl rfl rfl) rfl rfl rfl ?_
  refine yG (F := vI) (zY en171 rfl (fun w _ => mLimited _  w)) rfl rfl rfl ?_; intro r40_3 hr40_3
  refine qG (jV la88 rfl rfl) rfl rfl rfl ?_
  refine qG (qX ar132 rfl rfl (by first | decide | omega) (by first | decide | omega)) rfl rfl rfl ?_
  refine qG (qX ar126 rfl rfl (by first | decide | omega) (by first | decide | omega)) rfl rfl rfl ?_
  refine jK ?_
  refine yV ?_
  refine zZ 5 ty88 rfl rfl rfl rfl rfl rfl rfl rfl ?_
  refine qU ?_
  refine qV ?_
  refine qQ ?_
  refine qZ ?_
  refine qK (yJ rfl rfl (by first | exact zG ⟨by omega, by omega⟩ | rfl)) rfl rfl rfl ?_
  refine qK (qY rfl) rfl rfl rfl ?_
  refine qU ?_
  refine zW ?_
  refine yZ ?_
  refine qJ ?_
  refine qZ ?_
  refine qK (yK rfl rfl) rfl rfl rfl ?_
  refine qU ?_
  refine qQ ?_
  refine qJ ?_
  refine jW rfl (by decide) ?_
  refine kH ?_
  refine zX ?_
  refine zX ?_
  refine yH ?_
  refine qV ?_
  refine qQ ?_
  refine qZ ?_
  refine qK (yJ rfl rfl (by first | exact zG ⟨by omega, by omega⟩ | rfl)) rfl rfl rfl ?_
  refine qK (qY rfl) rfl rfl rfl ?_
  refine qU ?_
  refine zW ?_
  refine yZ ?_
  refine qJ ?_
  refine qZ ?_
  refine qK (yK rfl rfl) rfl rfl rfl ?_
  refine qU ?_
  refine qQ ?_
  refine qJ ?_
  refine zV rfl (by decide) ?_
  refine zU ?_
  refine qQ ?_
  refine qJ ?_
  refine zK ?_
  refine qJ ?_
  refine qZ ?_
  refine qK (qY rfl) rfl rfl rfl ?_
  refine qK (qW rfl) rfl rfl rfl ?_
  refine qU ?_
  refine qQ ?_
  refine qJ ?_
  refine qZ ?_
  refine qK (qY rfl) rfl rfl rfl ?_
  refine qU ?_
  refine qQ ?_
  refine zK ?_
  refine kX 4 ?_
  refine yZ ?_
  refine qJ ?_
  refine qZ ?_
  refine qK (yK rfl rfl) rfl rfl rfl ?_
  refine qU ?_
  refine qQ ?_
  refine qJ ?_
  refine zV rfl (by decide) ?_
  refine zU ?_
  refine qQ ?_
  refine qJ ?_
  refine zK ?_
  refine qJ ?_
  refine qZ ?_
  refine qK (qY rfl) rfl rfl rfl ?_
  refine qK (qW rfl) rfl rfl rfl ?_
  refine qU ?_
  refine qQ ?_
  refine qJ ?_
  refine doC_keepH (ks := [2, 3, 4, 5]) rfl ?_
  refine qZ ?_
  refine jZ 8 ze88 rfl rfl rfl ?_; intro b8_4
  refine qU ?_
  refine qQ ?_
  refine qJ ?_
  refine qJ ?_
  refine qZ ?_
  refine qK (qY rfl) rfl rfl rfl ?_
  refine qU ?_
  refine qQ ?_
  refine zK ?_
  refine kX 4 ?_
  refine yZ ?_
  refine qJ ?_
  refine qZ ?_
  refine qK (yK rfl rfl) rfl rfl rfl ?_
  refine qU ?_
  refine qQ ?_
  refine qJ ?_
  refine zV rfl (by decide) ?_
  refine zU ?_
  refine qQ ?_
  refine qJ ?_
  refine zK ?_
  refine qJ ?_
  refine qZ ?_
  refine qK (qY rfl) rfl rfl rfl ?_
  refine qK (qW rfl) rfl rfl rfl ?_
  refine qU ?_
  refine qQ ?_
  refine jY (ks := [2, 3, 4, 5, 6, 7, 8, 9, 10, 13, 16]) rfl ?_
  refine yX 13 mo (by kernel_rfl) ?_
  simp only [List.take_succ_cons, List.take_zero, List.drop_succ_cons, List.drop_zero]
  refine qG (zQ 8 ty88 rfl rfl rfl) rfl rfl rfl ?_
  refine qG (qY rfl) rfl rfl rfl ?_
  refine qG (qY rfl) rfl rfl rfl ?_
  refine qG (qX ar132 rfl rfl (by first | decide | omega) (by first | decide | omega)) rfl rfl rfl ?_
  refine qG (qX ar126 rfl rfl (by first | decide | omega) (by first | decide | omega)) rfl rfl rfl ?_
  refine qG (zQ 2 ty88 rfl rfl rfl) rfl rfl rfl ?_
  refine qG (qY rfl) rfl rfl rfl ?_
  refine qG (qY rfl) rfl rfl rfl ?_
  refine qG (qX ar132 rfl rfl (by first | decide | omega) (by first | decide | omega)) rfl rfl rfl ?_
  refine qG (qX ar126 rfl rfl (by first | decide | omega) (by first | decide | omega)) rfl rfl rfl ?_
  refine qG (zQ 3 ty88 rfl rfl rfl) rfl rfl rfl ?_
  refine yG (F := iv) (zY en162 rfl (fun w _ => iMul _ _ _ _  w)) rfl rfl rfl ?_; intro r30_10 hr30_10
  refine yG (F := iv) (zY en161 rfl (fun w _ => iAdd _ _ _ _  w)) rfl rfl rfl ?_; intro r31_10 hr31_10
  refine jK ?_
  refine yV ?_
  refine zZ 8 ty88 rfl rfl rfl rfl rfl rfl rfl rfl ?_
  refine qU ?_
  refine qV ?_
  refine qQ ?_
  refine qZ ?_
  refine qK (yJ rfl rfl (by first | exact zG ⟨by omega, by omega⟩ | rfl)) rfl rfl rfl ?_
  refine qK (qY rfl) rfl rfl rfl ?_
  refine qU ?_
  refine zW ?_
  refine yZ ?_
  refine qJ ?_
  refine qZ ?_
  refine qK (yK rfl rfl) rfl rfl rfl ?_
  refine qU ?_
  refine qQ ?_
  refine qJ ?_
  refine zV rfl (by decide) ?_
  refine zU ?_
  refine qQ ?_
  refine qJ ?_
  refine zK ?_
  refine qJ ?_
  refine qZ ?_
  refine qK (qY rfl) rfl rfl rfl ?_
  refine qK (qW rfl) rfl rfl rfl ?_
  refine qU ?_
  refine qQ ?_
  refine jY (ks := [2, 3, 4, 5, 6, 7, 8, 9, 10, 13, 16]) rfl ?_
  refine yX 13 mo (by kernel_rfl) ?_
  simp only [List.take_succ_cons, List.take_zero, List.drop_succ_cons, List.drop_zero]
  refine qG (zQ 8 ty88 rfl rfl rfl) rfl rfl rfl ?_
  refine qG (qY rfl) rfl rfl rfl ?_
  refine qG (qY rfl) rfl rfl rfl ?_
  refine qG (qX ar132 rfl rfl (by first | decide | omega) (by first | decide | omega)) rfl rfl rfl ?_
  refine qG (qX ar126 rfl rfl (by first | decide | omega) (by first | decide | omega)) rfl rfl rfl ?_
  refine qG (zQ 2 ty88 rfl rfl rfl) rfl rfl rfl ?_
  refine qG (qY rfl) rfl rfl rfl ?_
  refine qG (qY rfl) rfl rfl rfl ?_
  refine qG (qX ar132 rfl rfl (by first | decide | omega) (by first | decide | omega)) rfl rfl rfl ?_
  refine qG (qX ar126 rfl rfl (by first | decide | omega) (by first | decide | omega)) rfl rfl rfl ?_
  refine qG (zQ 3 ty88 rfl rfl rfl) rfl rfl rfl ?_
  refine yG (F := iv) (zY en162 rfl (fun w _ => iMul _ _ _ _  w)) rfl rfl rfl ?_; intro r30_11 hr30_11
  refine yG (F := iv) (zY en161 rfl (fun w _ => iAdd _ _ _ _  w)) rfl rfl rfl ?_; intro r31_11 hr31_11
  refine jK ?_
  refine yV ?_
  refine zZ 8 ty88 rfl rfl rfl rfl rfl rfl rfl rfl ?_
  refine qU ?_
  refine qV ?_
  refine qQ ?_
  refine qZ ?_
  refine qK (yJ rfl rfl (by first | exact zG ⟨by omega, by omega⟩ | rfl)) rfl rfl rfl ?_
  refine qK (qY rfl) rfl rfl rfl ?_
  refine qU ?_
  refine zW ?_
  refine yZ ?_
  refine qJ ?_
  refine qZ ?_
  refine qK (yK rfl rfl) rfl rfl rfl ?_
  refine qU ?_
  refine qQ ?_
  refine qJ ?_
  refine zV rfl (by decide) ?_
  refine zU ?_
  refine qQ ?_
  refine qJ ?_
  refine zK ?_
  refine qJ ?_
  refine qZ ?_
  refine qK (qY rfl) rfl rfl rfl ?_
  refine qK (qW rfl) rfl rfl rfl ?_
  refine qU ?_
  refine qQ ?_
  refine jY (ks := [2, 3, 4, 5, 6, 7, 8, 9, 10, 13, 16]) rfl ?_
  refine yX 13 mo (by kernel_rfl) ?_
  simp only [List.take_succ_cons, List.take_zero, List.drop_succ_cons, List.drop_zero]
  refine qG (zQ 8 ty88 rfl rfl rfl) rfl rfl rfl ?_
  refine qG (qY rfl) rfl rfl rfl ?_
  refine qG (qY rfl) rfl rfl rfl ?_
  refine qG (qX ar132 rfl rfl (by first | decide | omega) (by first | decide | omega)) rfl rfl rfl ?_
  refine qG (qX ar126 rfl rfl (by first | decide | omega) (by first | decide | omega)) rfl rfl rfl ?_
  refine qG (zQ 2 ty88 rfl rfl rfl) rfl rfl rfl ?_
  refine qG (qY rfl) rfl rfl rfl ?_
  refine qG (qY rfl) rfl rfl rfl ?_
  refine qG (qX ar132 rfl rfl (by first | decide | omega) (by first | decide | omega)) rfl rfl rfl ?_
  refine qG (qX ar126 rfl rfl (by first | decide | omega) (by first | decide | omega)) rfl rfl rfl ?_
  refine qG (zQ 3 ty88 rfl rfl rfl) rfl rfl rfl ?_
  refine yG (F := iv) (zY en162 rfl (fun w _ => iMul _ _ _ _  w)) rfl rfl rfl ?_; intro r30_12 hr30_12
  refine yG (F := iv) (zY en161 rfl (fun w _ => iAdd _ _ _ _  w)) rfl rfl rfl ?_; intro r31_12 hr31_12
  refine jK ?_
  refine yV ?_
  refine zZ 8 ty88 rfl rfl rfl rfl rfl rfl rfl rfl ?_
  refine qU ?_
  refine qV ?_
  refine qQ ?_
  refine qZ ?_
  refine qK (yJ rfl rfl (by first | exact zG ⟨by omega, by omega⟩ | rfl)) rfl rfl rfl ?_
  refine qK (qY rfl) rfl rfl rfl ?_
  refine qU ?_
  refine zW ?_
  refine yZ ?_
  refine qJ ?_
  refine qZ ?_
  refine qK (yK rfl rfl) rfl rfl rfl ?_
  refine qU ?_
  refine qQ ?_
  refine qJ ?_
  refine jW rfl (by decide) ?_
  refine kH ?_
  refine zX ?_
  refine zX ?_
  refine yH ?_
  refine qQ ?_
  refine jY (ks := [2, 3, 4, 5, 6, 7, 8, 9, 10, 13, 16]) rfl ?_
  refine yX 11 mo (by kernel_rfl) ?_
  simp only [List.take_succ_cons, List.take_zero, List.drop_succ_cons, List.drop_zero]
  refine qG (qY rfl) rfl rfl rfl ?_
  refine qG (qY rfl) rfl rfl rfl ?_
  refine qG (qH fa88_0 rfl) rfl rfl rfl ?_
  refine qG (zJ 8 ty2 rfl rfl rfl) rfl rfl rfl ?_
  refine yG (F := vI) (zY en171 rfl (fun w _ => mLimited _  w)) rfl rfl rfl ?_; intro r37_4 hr37_4
  refine qG (qH fa88_1 rfl) rfl rfl rfl ?_
  refine qG (zJ 8 ty2 rfl rfl rfl) rfl rfl rfl ?_
  refine yG (F := vI) (zY en171 rfl (fun w _ => mLimited _  w)) rfl rfl rfl ?_; intro r40_4 hr40_4
  refine qG (jV la88 rfl rfl) rfl rfl rfl ?_
  refine qG (qX ar132 rfl rfl (by first | decide | omega) (by first | decide | omega)) rfl rfl rfl ?_
  refine qG (qX ar126 rfl rfl (by first | decide | omega) (by first | decide | omega)) rfl rfl rfl ?_
  refine jK ?_
  refine yV ?_
  refine zZ 5 ty88 rfl rfl rfl rfl rfl rfl rfl rfl ?_
  refine qU ?_
  refine qV ?_
  refine qQ ?_
  refine qZ ?_
  refine qK (yJ rfl rfl (by first | exact zG ⟨by omega, by omega⟩ | rfl)) rfl rfl rfl ?_
  refine qK (qY rfl) rfl rfl rfl ?_
  refine qU ?_
  refine zW ?_
  refine yZ ?_
  refine qJ ?_
  refine qZ ?_
  refine qK (yK rfl rfl) rfl rfl rfl ?_
  refine qU ?_
  refine qQ ?_
  refine qJ ?_
  refine zV rfl (by decide) ?_
  refine zU ?_
  refine qQ ?_
  refine qJ ?_
  refine zK ?_
  refine qJ ?_
  refine qZ ?_
  refine qK (qY rfl) rfl rfl rfl ?_
  refine qK (qW rfl) rfl rfl rfl ?_
  refine qU ?_
  refine qQ ?_
  refine qJ ?_
  refine doC_keepH (ks := [2, 3, 4, 5]) rfl ?_
  refine qZ ?_
  refine jZ 8 ze88 rfl rfl rfl ?_; intro b8_5
  refine qU ?_
  refine qQ ?_
  refine qJ ?_
  refine qJ ?_
  refine qZ ?_
  refine qK (qY rfl) rfl rfl rfl ?_
  refine qU ?_
  refine qQ ?_
  refine zK ?_
  refine kX 4 ?_
  refine yZ ?_
  refine qJ ?_
  refine qZ ?_
  refine qK (yK rfl rfl) rfl rfl rfl ?_
  refine qU ?_
  refine qQ ?_
  refine qJ ?_
  refine zV rfl (by decide) ?_
  refine zU ?_
  refine qQ ?_
  refine qJ ?_
  refine zK ?_
  refine qJ ?_
  refine qZ ?_
  refine qK (qY rfl) rfl rfl rfl ?_
  refine qK (qW rfl) rfl rfl rfl ?_
  refine qU ?_
  refine qQ ?_
  refine jY (ks := [2, 3, 4, 5, 6, 7, 8, 9, 10, 13, 16]) rfl ?_
  refine yX 13 mo (by kernel_rfl) ?_
  simp only [List.take_succ_cons, List.take_zero, List.drop_succ_cons, List.drop_zero]
  refine qG (zQ 8 ty88 rfl rfl rfl) rfl rfl rfl ?_
  refine qG (qY rfl) rfl rfl rfl ?_
  refine qG (qY rfl) rfl rfl rfl ?_
  refine qG (qX ar132 rfl rfl (by first | decide | omega) (by first | decide | omega)) rfl rfl rfl ?_
  refine qG (qX ar126 rfl rfl (by first | decide | omega) (by first | decide | omega)) rfl rfl rfl ?_
  refine qG (zQ 2 ty88 rfl rfl rfl) rfl rfl rfl ?_
  refine qG (qY rfl) rfl rfl rfl ?_
  refine qG (qY rfl) rfl rfl rfl ?_
  refine qG (qX ar132 rfl rfl (by first | decide | omega) (by first | decide | omega)) rfl rfl rfl ?_
  refine qG (qX ar126 rfl rfl (by first | decide | omega) (by first | decide | omega)) rfl rfl rfl ?_
  refine qG (zQ 3 ty88 rfl rfl rfl) rfl rfl rfl ?_
  refine yG (F := iv) (zY en162 rfl (fun w _ => iMul _ _ _ _  w)) rfl rfl rfl ?_; intro r30_13 hr30_13
  refine yG (F := iv) (zY en161 rfl (fun w _ => iAdd _ _ _ _  w)) rfl rfl rfl ?_; intro r31_13 hr31_13
  refine jK ?_
  refine yV ?_
  refine zZ 8 ty88 rfl rfl rfl rfl rfl rfl rfl rfl ?_
  refine qU ?_
  refine qV ?_
  refine qQ ?_
  refine qZ ?_
  refine qK (yJ rfl rfl (by first | exact zG ⟨by omega, by omega⟩ | rfl)) rfl rfl rfl ?_
  refine qK (qY rfl) rfl rfl rfl ?_
  refine qU ?_
  refine zW ?_
  refine yZ ?_
  refine qJ ?_
  refine qZ ?_
  refine qK (yK rfl rfl) rfl rfl rfl ?_
  refine qU ?_
  refine qQ ?_
  refine qJ ?_
  refine zV rfl (by decide) ?_
  refine zU ?_
  refine qQ ?_
  refine qJ ?_
  refine zK ?_
  refine qJ ?_
  refine qZ ?_
  refine qK (qY rfl) rfl rfl rfl ?_
  refine qK (qW rfl) rfl rfl rfl ?_
  refine qU ?_
  refine qQ ?_
  refine jY (ks := [2, 3, 4, 5, 6, 7, 8, 9, 10, 13, 16]) rfl ?_
  refine yX 13 mo (by kernel_rfl) ?_
  simp only [List.take_succ_cons, List.take_zero, List.drop_succ_cons, List.drop_zero]
  refine qG (zQ 8 ty88 rfl rfl rfl) rfl rfl rfl ?_
  refine qG (qY rfl) rfl rfl rfl ?_
  refine qG (qY rfl) rfl rfl rfl ?_
  refine qG (qX ar132 rfl rfl (by first | decide | omega) (by first | decide | omega)) rfl rfl rfl ?_
  refine qG (qX ar126 rfl rfl (by first | decide | omega) (by first | decide | omega)) rfl rfl rfl ?_
  refine qG (zQ 2 ty88 rfl rfl rfl) rfl rfl rfl ?_
  refine qG (qY rfl) rfl rfl rfl ?_
  refine qG (qY rfl) rfl rfl rfl ?_
  refine qG (qX ar132 rfl rfl (by first | decide | omega) (by first | decide | omega)) rfl rfl rfl ?_
  refine qG (qX ar126 rfl rfl (by first | decide | omega) (by first | decide | omega)) rfl rfl rfl ?_
  refine qG (zQ 3 ty88 rfl rfl rfl) rfl rfl rfl ?_
  refine yG (F := iv) (zY en162 rfl (fun w _ => iMul _ _ _ _  w)) rfl rfl rfl ?_; intro r30_14 hr30_14
  refine yG (F := iv) (zY en161 rfl (fun w _ => iAdd _ _ _ _  w)) rfl rfl rfl ?_; intro r31_14 hr31_14
  refine jK ?_
  refine yV ?_
  refine zZ 8 ty88 rfl rfl rfl rfl rfl rfl rfl rfl ?_
  refine qU ?_
  refine qV ?_
  refine qQ ?_
  refine qZ ?_
  refine qK (yJ rfl rfl (by first | exact zG ⟨by omega, by omega⟩ | rfl)) rfl rfl rfl ?_
  refine qK (qY rfl) rfl rfl rfl ?_
  refine qU ?_
  refine zW ?_
  refine yZ ?_
  refine qJ ?_
  refine qZ ?_
  refine qK (yK rfl rfl) rfl rfl rfl ?_
  refine qU ?_
  refine qQ ?_
  refine qJ ?_
  refine zV rfl (by decide) ?_
  refine zU ?_
  refine qQ ?_
  refine qJ ?_
  refine zK ?_
  refine qJ ?_
  refine qZ ?_
  refine qK (qY rfl) rfl rfl rfl ?_
  refine qK (qW rfl) rfl rfl rfl ?_
  refine qU ?_
  refine qQ ?_
  refine jY (ks := [2, 3, 4, 5, 6, 7, 8, 9, 10, 13, 16]) rfl ?_
  refine yX 13 mo (by kernel_rfl) ?_
  simp only [List.take_succ_cons, List.take_zero, List.drop_succ_cons, List.drop_zero]
  refine qG (zQ 8 ty88 rfl rfl rfl) rfl rfl rfl ?_
  refine qG (qY rfl) rfl rfl rfl ?_
  refine qG (qY rfl) rfl rfl rfl ?_
  refine qG (qX ar132 rfl rfl (by first | decide | omega) (by first | decide | omega)) rfl rfl rfl ?_
  refine qG (qX ar126 rfl rfl (by first | decide | omega) (by first | decide | omega)) rfl rfl rfl ?_
  refine qG (zQ 2 ty88 rfl rfl rfl) rfl rfl rfl ?_
  refine qG (qY rfl) rfl rfl rfl ?_
  refine qG (qY rfl) rfl rfl rfl ?_
  refine qG (qX ar132 rfl rfl (by first | decide | omega) (by first | decide | omega)) rfl rfl rfl ?_
  refine qG (qX ar126 rfl rfl (by first | decide | omega) (by first | decide | omega)) rfl rfl rfl ?_
  refine qG (zQ 3 ty88 rfl rfl rfl) rfl rfl rfl ?_
  refine yG (F := iv) (zY en162 rfl (fun w _ => iMul _ _ _ _  w)) rfl rfl rfl ?_; intro r30_15 hr30_15
  refine yG (F := iv) (zY en161 rfl (fun w _ => iAdd _ _ _ _  w)) rfl rfl rfl ?_; intro r31_15 hr31_15
  refine jK ?_
  refine yV ?_
  refine zZ 8 ty88 rfl rfl rfl rfl rfl rfl rfl rfl ?_
  refine qU ?_
  refine qV ?_
  refine qQ ?_
  refine qZ ?_
  refine qK (yJ rfl rfl (by first | exact zG ⟨by omega, by omega⟩ | rfl)) rfl rfl rfl ?_
  refine qK (qY rfl) rfl rfl rfl ?_
  refine qU ?_
  refine zW ?_
  refine yZ ?_
  refine qJ ?_
  refine qZ ?_
  refine qK (yK rfl rfl) rfl rfl rfl ?_
  refine qU ?_
  refine qQ ?_
  refine qJ ?_
  refine jW rfl (by decide) ?_
  refine kH ?_
  refine zX ?_
  refine zX ?_
  refine yH ?_
  refine qQ ?_
  refine jY (ks := [2, 3, 4, 5, 6, 7, 8, 9, 10, 13, 16]) rfl ?_
  refine yX 11 mo (by kernel_rfl) ?_
  simp only [List.take_succ_cons, List.take_zero, List.drop_succ_cons, List.drop_zero]
  refine qG (qY rfl) rfl rfl rfl ?_
  refine qG (qY rfl) rfl rfl rfl ?_
  refine qG (qH fa88_0 rfl) rfl rfl rfl ?_
  refine qG (zJ 8 ty2 rfl rfl rfl) rfl rfl rfl ?_
  refine yG (F := vI) (zY en171 rfl (fun w _ => mLimited _  w)) rfl rfl rfl ?_; intro r37_5 hr37_5
  refine qG (qH fa88_1 rfl) rfl rfl rfl ?_
  refine qG (zJ 8 ty2 rfl rfl rfl) rfl rfl rfl ?_
  refine yG (F := vI) (zY en171 rfl (fun w _ => mLimited _  w)) rfl rfl rfl ?_; intro r40_5 hr40_5
  refine qG (jV la88 rfl rfl) rfl rfl rfl ?_
  refine qG (qX ar132 rfl rfl (by first | decide | omega) (by first | decide | omega)) rfl rfl rfl ?_
  refine qG (qX ar126 rfl rfl (by first | decide | omega) (by first | decide | omega)) rfl rfl rfl ?_
  refine jK ?_
  refine yV ?_
  refine zZ 5 ty88 rfl rfl rfl rfl rfl rfl rfl rfl ?_
  refine qU ?_
  refine qV ?_
  refine qQ ?_
  refine qZ ?_
  refine qK (yJ rfl rfl (by first | exact zG ⟨by omega, by omega⟩ | rfl)) rfl rfl rfl ?_
  refine qK (qY rfl) rfl rfl rfl ?_
  refine qU ?_
  refine zW ?_
  refine yZ ?_
  refine qJ ?_
  refine qZ ?_
  refine qK (yK rfl rfl) rfl rfl rfl ?_
  refine qU ?_
  refine qQ ?_
  refine qJ ?_
  refine zV rfl (by decide) ?_
  refine zU ?_
  refine qQ ?_
  refine qJ ?_
  refine zK ?_
  refine qJ ?_
  refine qZ ?_
  refine qK (qY rfl) rfl rfl rfl ?_
  refine qK (qW rfl) rfl rfl rfl ?_
  refine qU ?_
  refine qQ ?_
  refine qJ ?_
  refine doC_keepH (ks := [2, 3, 4, 5]) rfl ?_
  refine qZ ?_
  refine jZ 8 ze88 rfl rfl rfl ?_; intro b8_6
  refine qU ?_
  refine qQ ?_
  refine qJ ?_
  refine qJ ?_
  refine qZ ?_
  refine qK (qY rfl) rfl rfl rfl ?_
  refine qU ?_
  refine qQ ?_
  refine zK ?_
  refine kX 4 ?_
  refine yZ ?_
  refine qJ ?_
  refine qZ ?_
  refine qK (yK rfl rfl) rfl rfl rfl ?_
  refine qU ?_
  refine qQ ?_
  refine qJ ?_
  refine zV rfl (by decide) ?_
  refine zU ?_
  refine qQ ?_
  refine qJ ?_
  refine zK ?_
  refine qJ ?_
  refine qZ ?_
  refine qK (qY rfl) rfl rfl rfl ?_
  refine qK (qW rfl) rfl rfl rfl ?_
  refine qU ?_
  refine qQ ?_
  refine jY (ks := [2, 3, 4, 5, 6, 7, 8, 9, 10, 13, 16]) rfl ?_
  refine yX 13 mo (by kernel_rfl) ?_
  simp only [List.take_succ_cons, List.take_zero, List.drop_succ_cons, List.drop_zero]
  refine qG (zQ 8 ty88 rfl rfl rfl) rfl rfl rfl ?_
  refine qG (qY rfl) rfl rfl rfl ?_
  refine qG (qY rfl) rfl rfl rfl ?_
  refine qG (qX ar132 rfl rfl (by first | decide | omega) (by first | decide | omega)) rfl rfl rfl ?_
  refine qG (qX ar126 rfl rfl (by first | decide | omega) (by first | decide | omega)) rfl rfl rfl ?_
  refine qG (zQ 2 ty88 rfl rfl rfl) rfl rfl rfl ?_
  refine qG (qY rfl) rfl rfl rfl ?_
  refine qG (qY rfl) rfl rfl rfl ?_
  refine qG (qX ar132 rfl rfl (by first | decide | omega) (by first | decide | omega)) rfl rfl rfl ?_
  refine qG (qX ar126 rfl rfl (by first | decide | omega) (by first | decide | omega)) rfl rfl rfl ?_
  refine qG (zQ 3 ty88 rfl rfl rfl) rfl rfl rfl ?_
  refine yG (F := iv) (zY en162 rfl (fun w _ => iMul _ _ _ _  w)) rfl rfl rfl ?_; intro r30_16 hr30_16
  refine yG (F := iv) (zY en161 rfl (fun w _ => iAdd _ _ _ _  w)) rfl rfl rfl ?_; intro r31_16 hr31_16
  refine jK ?_
  refine yV ?_
  refine zZ 8 ty88 rfl rfl rfl rfl rfl rfl rfl rfl ?_
  refine qU ?_
  refine qV ?_
  refine qQ ?_
  refine qZ ?_
  refine qK (yJ rfl rfl (by first | exact zG ⟨by omega, by omega⟩ | rfl)) rfl rfl rfl ?_
  refine qK (qY rfl) rfl rfl rfl ?_
  refine qU ?_
  refine zW ?_
  refine yZ ?_
  refine qJ ?_
  refine qZ ?_
  refine qK (yK rfl rfl) rfl rfl rfl ?_
  refine qU ?_
  refine qQ ?_
  refine qJ ?_
  refine zV rfl (by decide) ?_
  refine zU ?_
  refine qQ ?_
  refine qJ ?_
  refine zK ?_
  refine qJ ?_
  refine qZ ?_
  refine qK (qY rfl) rfl rfl rfl ?_
  refine qK (qW rfl) rfl rfl rfl ?_
  refine qU ?_
  refine qQ ?_
  refine jY (ks := [2, 3, 4, 5, 6, 7, 8, 9, 10, 13, 16]) rfl ?_
  refine yX 13 mo (by kernel_rfl) ?_
  simp only [List.take_succ_cons, List.take_zero, List.drop_succ_cons, List.drop_zero]
  refine qG (zQ 8 ty88 rfl rfl rfl) rfl rfl rfl ?_
  refine qG (qY rfl) rfl rfl rfl ?_
  refine qG (qY rfl) rfl rfl rfl ?_
  refine qG (qX ar132 rfl rfl (by first | decide | omega) (by first | decide | omega)) rfl rfl rfl ?_
  refine qG (qX ar126 rfl rfl (by first | decide | omega) (by first | decide | omega)) rfl rfl rfl ?_
  refine qG (zQ 2 ty88 rfl rfl rfl) rfl rfl rfl ?_
  refine qG (qY rfl) rfl rfl rfl ?_
  refine qG (qY rfl) rfl rfl rfl ?_
  refine qG (qX ar132 rfl rfl (by first | decide | omega) (by first | decide | omega)) rfl rfl rfl ?_
  refine qG (qX ar126 rfl rfl (by first | decide | omega) (by first | decide | omega)) rfl rfl rfl ?_
  refine qG (zQ 3 ty88 rfl rfl rfl) rfl rfl rfl ?_
  refine yG (F := iv) (zY en162 rfl (fun w _ => iMul _ _ _ _  w)) rfl rfl rfl ?_; intro r30_17 hr30_17
  refine yG (F := iv) (zY en161 rfl (fun w _ => iAdd _ _ _ _  w)) rfl rfl rfl ?_; intro r31_17 hr31_17
  refine jK ?_
  refine yV ?_
  refine zZ 8 ty88 rfl rfl rfl rfl rfl rfl rfl rfl ?_
  refine qU ?_
  refine qV ?_
  refine qQ ?_
  refine qZ ?_
  refine qK (yJ rfl rfl (by first | exact zG ⟨by omega, by omega⟩ | rfl)) rfl rfl rfl ?_
  refine qK (qY rfl) rfl rfl rfl ?_
  refine qU ?_
  refine zW ?_
  refine yZ ?_
  refine qJ ?_
  refine qZ ?_
  refine qK (yK rfl rfl) rfl rfl rfl ?_
  refine qU ?_
  refine qQ ?_
  refine qJ ?_
  refine zV rfl (by decide) ?_
  refine zU ?_
  refine qQ ?_
  refine qJ ?_
  refine zK ?_
  refine qJ ?_
  refine qZ ?_
  refine qK (qY rfl) rfl rfl rfl ?_
  refine qK (qW rfl) rfl rfl rfl ?_
  refine qU ?_
  refine qQ ?_
  refine jY (ks := [2, 3, 4, 5, 6, 7, 8, 9, 10, 13, 16]) rfl ?_
  refine yX 13 mo (by kernel_rfl) ?_
  simp only [List.take_succ_cons, List.take_zero, List.drop_succ_cons, List.drop_zero]
  refine qG (zQ 8 ty88 rfl rfl rfl) rfl rfl rfl ?_
  refine qG (qY rfl) rfl rfl rfl ?_
  refine qG (qY rfl) rfl rfl rfl ?_
  refine qG (qX ar132 rfl rfl (by first | decide | omega) (by first | decide | omega)) rfl rfl rfl ?_
  refine qG (qX ar126 rfl rfl (by first | decide | omega) (by first | decide | omega)) rfl rfl rfl ?_
  refine qG (zQ 2 ty88 rfl rfl rfl) rfl rfl rfl ?_
  refine qG (qY rfl) rfl rfl rfl ?_
  refine qG (qY rfl) rfl rfl rfl ?_
  refine qG (qX ar132 rfl rfl (by first | decide | omega) (by first | decide | omega)) rfl rfl rfl ?_
  refine qG (qX ar126 rfl rfl (by first | decide | omega) (by first | decide | omega)) rfl rfl rfl ?_
  refine qG (zQ 3 ty88 rfl rfl rfl) rfl rfl rfl ?_
  refine yG (F := iv) (zY en162 rfl (fun w _ => iMul _ _ _ _  w)) rfl rfl rfl ?_; intro r30_18 hr30_18
  refine yG (F := iv) (zY en161 rfl (fun w _ => iAdd _ _ _ _  w)) rfl rfl rfl ?_; intro r31_18 hr31_18
  refine jK ?_
  refine yV ?_
  refine zZ 8 ty88 rfl rfl rfl rfl rfl rfl rfl rfl ?_
  refine qU ?_
  refine qV ?_
  refine qQ ?_
  refine qZ ?_
  refine qK (yJ rfl rfl (by first | exact zG ⟨by omega, by omega⟩ | rfl)) rfl rfl rfl ?_
  refine qK (qY rfl) rfl rfl rfl ?_
  refine qU ?_
  refine zW ?_
  refine yZ ?_
  refine qJ ?_
  refine qZ ?_
  refine qK (yK rfl rfl) rfl rfl rfl ?_
  refine qU ?_
  refine qQ ?_
  refine qJ ?_
  refine jW rfl (by decide) ?_
  refine kH ?_
  refine zX ?_
  refine zX ?_
  refine yH ?_
  refine qQ ?_
  refine jY (ks := [2, 3, 4, 5, 6, 7, 8, 9, 10, 13, 16]) rfl ?_
  refine yX 11 mo (by kernel_rfl) ?_
  simp only [List.take_succ_cons, List.take_zero, List.drop_succ_cons, List.drop_zero]
  refine qG (qY rfl) rfl rfl rfl ?_
  refine qG (qY rfl) rfl rfl rfl ?_
  refine qG (qH fa88_0 rfl) rfl rfl rfl ?_
  refine qG (zJ 8 ty2 rfl rfl rfl) rfl rfl rfl ?_
  refine yG (F := vI) (zY en171 rfl (fun w _ => mLimited _  w)) rfl rfl rfl ?_; intro r37_6 hr37_6
  refine qG (qH fa88_1 rfl) rfl rfl rfl ?_
  refine qG (zJ 8 ty2 rfl rfl rfl) rfl rfl rfl ?_
  refine yG (F := vI) (zY en171 rfl (fun w _ => mLimited _  w)) rfl rfl rfl ?_; intro r40_6 hr40_6
  refine qG (jV la88 rfl rfl) rfl rfl rfl ?_
  refine qG (qX ar132 rfl rfl (by first | decide | omega) (by first | decide | omega)) rfl rfl rfl ?_
  refine qG (qX ar126 rfl rfl (by first | decide | omega) (by first | decide | omega)) rfl rfl rfl ?_
  refine jK ?_
  refine yV ?_
  refine zZ 5 ty88 rfl rfl rfl rfl rfl rfl rfl rfl ?_
  refine qU ?_
  refine qV ?_
  refine qQ ?_
  refine qZ ?_
  refine qK (yJ rfl rfl (by first | exact zG ⟨by omega, by omega⟩ | rfl)) rfl rfl rfl ?_
  refine qK (qY rfl) rfl rfl rfl ?_
  refine qU ?_
  refine zW ?_
  refine yZ ?_
  refine qJ ?_
  refine qZ ?_
  refine qK (yK rfl rfl) rfl rfl rfl ?_
  refine qU ?_
  refine qQ ?_
  refine qJ ?_
  refine jW rfl (by decide) ?_
  refine kH ?_
  refine zX ?_
  refine zX ?_
  refine yH ?_
  refine qV ?_
  refine qQ ?_
  refine qZ ?_
  refine qK (yJ rfl rfl (by first | exact zG ⟨by omega, by omega⟩ | rfl)) rfl rfl rfl ?_
  refine qK (qY rfl) rfl rfl rfl ?_
  refine qU ?_
  refine zW ?_
  refine yZ ?_
  refine qJ ?_
  refine qZ ?_
  refine qK (yK rfl rfl) rfl rfl rfl ?_
  refine qU ?_
  refine qQ ?_
  refine qJ ?_
  refine zV rfl (by decide) ?_
  refine zU ?_
  refine qQ ?_
  refine qJ ?_
  refine zK ?_
  refine qJ ?_
  refine qZ ?_
  refine qK (qY rfl) rfl rfl rfl ?_
  refine qK (qW rfl) rfl rfl rfl ?_
  refine qU ?_
  refine qQ ?_
  refine qJ ?_
  refine qZ ?_
  refine qK (qY rfl) rfl rfl rfl ?_
  refine qU ?_
  refine qQ ?_
  refine zK ?_
  refine kX 4 ?_
  refine yZ ?_
  refine qJ ?_
  refine qZ ?_
  refine qK (yK rfl rfl) rfl rfl rfl ?_
  refine qU ?_
  refine qQ ?_
  refine qJ ?_
  refine zV rfl (by decide) ?_
  refine zU ?_
  refine qQ ?_
  refine qJ ?_
  refine zK ?_
  refine qJ ?_
  refine qZ ?_
  refine qK (qY rfl) rfl rfl rfl ?_
  refine qK (qW rfl) rfl rfl rfl ?_
  refine qU ?_
  refine qQ ?_
  refine qJ ?_
  refine doC_keepH (ks := [2, 3, 4, 5]) rfl ?_
  refine qZ ?_
  refine jZ 8 ze88 rfl rfl rfl ?_; intro b8_7
  refine qU ?_
  refine qQ ?_
  refine qJ ?_
  refine qJ ?_
  refine qZ ?_
  refine qK (qY rfl) rfl rfl rfl ?_
  refine qU ?_
  refine qQ ?_
  refine zK ?_
  refine kX 4 ?_
  refine yZ ?_
  refine qJ ?_
  refine qZ ?_
  refine qK (yK rfl rfl) rfl rfl rfl ?_
  refine qU ?_
  refine qQ ?_
  refine qJ ?_
  refine zV rfl (by decide) ?_
  refine zU ?_
  refine qQ ?_
  refine qJ ?_
  refine zK ?_
  refine qJ ?_
  refine qZ ?_
  refine qK (qY rfl) rfl rfl rfl ?_
  refine qK (qW rfl) rfl rfl rfl ?_
  refine qU ?_
  refine qQ ?_
  refine jY (ks := [2, 3, 4, 5, 6, 7, 8, 9, 10, 13, 16]) rfl ?_
  refine yX 13 mo (by kernel_rfl) ?_
  simp only [List.take_succ_cons, List.take_zero, List.drop_succ_cons, List.drop_zero]
  refine qG (zQ 8 ty88 rfl rfl rfl) rfl rfl rfl ?_
  refine qG (qY rfl) rfl rfl rfl ?_
  refine qG (qY rfl) rfl rfl rfl ?_
  refine qG (qX ar132 rfl rfl (by first | decide | omega) (by first | decide | omega)) rfl rfl rfl ?_
  refine qG (qX ar126 rfl rfl (by first | decide | omega) (by first | decide | omega)) rfl rfl rfl ?_
  refine qG (zQ 2 ty88 rfl rfl rfl) rfl rfl rfl ?_
  refine qG (qY rfl) rfl rfl rfl ?_
  refine qG (qY rfl) rfl rfl rfl ?_
  refine qG (qX ar132 rfl rfl (by first | decide | omega) (by first | decide | omega)) rfl rfl rfl ?_
  refine qG (qX ar126 rfl rfl (by first | decide | omega) (by first | decide | omega)) rfl rfl rfl ?_
  refine qG (zQ 3 ty88 rfl rfl rfl) rfl rfl rfl ?_
  refine yG (F := iv) (zY en162 rfl (fun w _ => iMul _ _ _ _  w)) rfl rfl rfl ?_; intro r30_19 hr30_19
  refine yG (F := iv) (zY en161 rfl (fun w _ => iAdd _ _ _ _  w)) rfl rfl rfl ?_; intro r31_19 hr31_19
  refine jK ?_
  refine yV ?_
  refine zZ 8 ty88 rfl rfl rfl rfl rfl rfl rfl rfl ?_
  refine qU ?_
  refine qV ?_
  refine qQ ?_
  refine qZ ?_
  refine qK (yJ rfl rfl (by first | exact zG ⟨by omega, by omega⟩ | rfl)) rfl rfl rfl ?_
  refine qK (qY rfl) rfl rfl rfl ?_
  refine qU ?_
  refine zW ?_
  refine yZ ?_
  refine qJ ?_
  refine qZ ?_
  refine qK (yK rfl rfl) rfl rfl rfl ?_
  refine qU ?_
  refine qQ ?_
  refine qJ ?_
  refine zV rfl (by decide) ?_
  refine zU ?_
  refine qQ ?_
  refine qJ ?_
  refine zK ?_
  refine qJ ?_
  refine qZ ?_
  refine qK (qY rfl) rfl rfl rfl ?_
  refine qK (qW rfl) rfl rfl rfl ?_
  refine qU ?_
  refine qQ ?_
  refine jY (ks := [2, 3, 4, 5, 6, 7, 8, 9, 10, 13, 16]) rfl ?_
  refine yX 13 mo (by kernel_rfl) ?_
  simp only [List.take_succ_cons, List.take_zero, List.drop_succ_cons, List.drop_zero]
  refine qG (zQ 8 ty88 rfl rfl rfl) rfl rfl rfl ?_
  refine qG (qY rfl) rfl rfl rfl ?_
  refine qG (qY rfl) rfl rfl rfl ?_
  refine qG (qX ar132 rfl rfl (by first | decide | omega) (by first | decide | omega)) rfl rfl rfl ?_
  refine qG (qX ar126 rfl rfl (by first | decide | omega) (by first | decide | omega)) rfl rfl rfl ?_
  refine qG (zQ 2 ty88 rfl rfl rfl) rfl rfl rfl ?_
  refine qG (qY rfl) rfl rfl rfl ?_
  refine qG (qY rfl) rfl rfl rfl ?_
  refine qG (qX ar132 rfl rfl (by first | decide | omega) (by first | decide | omega)) rfl rfl rfl ?_
  refine qG (qX ar126 rfl rfl (by first | decide | omega) (by first | decide | omega)) rfl rfl rfl ?_
  refine qG (zQ 3 ty88 rfl rfl rfl) rfl rfl rfl ?_
  refine yG (F := iv) (zY en162 rfl (fun w _ => iMul _ _ _ _  w)) rfl rfl rfl ?_; intro r30_20 hr30_20
  refine yG (F := iv) (zY en161 rfl (fun w _ => iAdd _ _ _ _  w)) rfl rfl rfl ?_; intro r31_20 hr31_20
  refine jK ?_
  refine yV ?_
  refine zZ 8 ty88 rfl rfl rfl rfl rfl rfl rfl rfl ?_
  refine qU ?_
  refine qV ?_
  refine qQ ?_
  refine qZ ?_
  refine qK (yJ rfl rfl (by first | exact zG ⟨by omega, by omega⟩ | rfl)) rfl rfl rfl ?_
  refine qK (qY rfl) rfl rfl rfl ?_
  refine qU ?_
  refine zW ?_
  refine yZ ?_
  refine qJ ?_
  refine qZ ?_
  refine qK (yK rfl rfl) rfl rfl rfl ?_
  refine qU ?_
  refine qQ ?_
  refine qJ ?_
  refine zV rfl (by decide) ?_
  refine zU ?_
  refine qQ ?_
  refine qJ ?_
  refine zK ?_
  refine qJ ?_
  refine qZ ?_
  refine qK (qY rfl) rfl rfl rfl ?_
  refine qK (qW rfl) rfl rfl rfl ?_
  refine qU ?_
  refine qQ ?_
  refine jY (ks := [2, 3, 4, 5, 6, 7, 8, 9, 10, 13, 16]) rfl ?_
  refine yX 13 mo (by kernel_rfl) ?_
  simp only [List.take_succ_cons, List.take_zero, List.drop_succ_cons, List.drop_zero]
  refine qG (zQ 8 ty88 rfl rfl rfl) rfl rfl rfl ?_
  refine qG (qY rfl) rfl rfl rfl ?_
  refine qG (qY rfl) rfl rfl rfl ?_
  refine qG (qX ar132 rfl rfl (by first | decide | omega) (by first | decide | omega)) rfl rfl rfl ?_
  refine qG (qX ar126 rfl rfl (by first | decide | omega) (by first | decide | omega)) rfl rfl rfl ?_
  refine qG (zQ 2 ty88 rfl rfl rfl) rfl rfl rfl ?_
  refine qG (qY rfl) rfl rfl rfl ?_
  refine qG (qY rfl) rfl rfl rfl ?_
  refine qG (qX ar132 rfl rfl (by first | decide | omega) (by first | decide | omega)) rfl rfl rfl ?_
  refine qG (qX ar126 rfl rfl (by first | decide | omega) (by first | decide | omega)) rfl rfl rfl ?_
  refine qG (zQ 3 ty88 rfl rfl rfl) rfl rfl rfl ?_
  refine yG (F := iv) (zY en162 rfl (fun w _ => iMul _ _ _ _  w)) rfl rfl rfl ?_; intro r30_21 hr30_21
  refine yG (F := iv) (zY en161 rfl (fun w _ => iAdd _ _ _ _  w)) rfl rfl rfl ?_; intro r31_21 hr31_21
  refine jK ?_
  refine yV ?_
  refine zZ 8 ty88 rfl rfl rfl rfl rfl rfl rfl rfl ?_
  refine qU ?_
  refine qV ?_
  refine qQ ?_
  refine qZ ?_
  refine qK (yJ rfl rfl (by first | exact zG ⟨by omega, by omega⟩ | rfl)) rfl rfl rfl ?_
  refine qK (qY rfl) rfl rfl rfl ?_
  refine qU ?_
  refine zW ?_
  refine yZ ?_
  refine qJ ?_
  refine qZ ?_
  refine qK (yK rfl rfl) rfl rfl rfl ?_
  refine qU ?_
  refine qQ ?_
  refine qJ ?_
  refine jW rfl (by decide) ?_
  refine kH ?_
  refine zX ?_
  refine zX ?_
  refine yH ?_
  refine qQ ?_
  refine jY (ks := [2, 3, 4, 5, 6, 7, 8, 9, 10, 13, 16]) rfl ?_
  refine yX 11 mo (by kernel_rfl) ?_
  simp only [List.take_succ_cons, List.take_zero, List.drop_succ_cons, List.drop_zero]
  refine qG (qY rfl) rfl rfl rfl ?_
  refine qG (qY rfl) rfl rfl rfl ?_
  refine qG (qH fa88_0 rfl) rfl rfl rfl ?_
  refine qG (zJ 8 ty2 rfl rfl rfl) rfl rfl rfl ?_
  refine yG (F := vI) (zY en171 rfl (fun w _ => mLimited _  w)) rfl rfl rfl ?_; intro r37_7 hr37_7
  refine qG (qH fa88_1 rfl) rfl rfl rfl ?_
  refine qG (zJ 8 ty2 rfl rfl rfl) rfl rfl rfl ?_
  refine yG (F := vI) (zY en171 rfl (fun w _ => mLimited _  w)) rfl rfl rfl ?_; intro r40_7 hr40_7
  refine qG (jV la88 rfl rfl) rfl rfl rfl ?_
  refine qG (qX ar132 rfl rfl (by first | decide | omega) (by first | decide | omega)) rfl rfl rfl ?_
  refine qG (qX ar126 rfl rfl (by first | decide | omega) (by first | decide | omega)) rfl rfl rfl ?_
  refine jK ?_
  refine yV ?_
  refine zZ 5 ty88 rfl rfl rfl rfl rfl rfl rfl rfl ?_
  refine qU ?_
  refine qV ?_
  refine qQ ?_
  refine qZ ?_
  refine qK (yJ rfl rfl (by first | exact zG ⟨by omega, by omega⟩ | rfl)) rfl rfl rfl ?_
  refine qK (qY rfl) rfl rfl rfl ?_
  refine qU ?_
  refine zW ?_
  refine yZ ?_
  refine qJ ?_
  refine qZ ?_
  refine qK (yK rfl rfl) rfl rfl rfl ?_
  refine qU ?_
  refine qQ ?_
  refine qJ ?_
  refine zV rfl (by decide) ?_
  refine zU ?_
  refine qQ ?_
  refine qJ ?_
  refine zK ?_
  refine qJ ?_
  refine qZ ?_
  refine qK (qY rfl) rfl rfl rfl ?_
  refine qK (qW rfl) rfl rfl rfl ?_
  refine qU ?_
  refine qQ ?_
  refine qJ ?_
  refine doC_keepH (ks := [2, 3, 4, 5]) rfl ?_
  refine qZ ?_
  refine jZ 8 ze88 rfl rfl rfl ?_; intro b8_8
  refine qU ?_
  refine qQ ?_
  refine qJ ?_
  refine qJ ?_
  refine qZ ?_
  refine qK (qY rfl) rfl rfl rfl ?_
  refine qU ?_
  refine qQ ?_
  refine zK ?_
  refine kX 4 ?_
  refine yZ ?_
  refine qJ ?_
  refine qZ ?_
  refine qK (yK rfl rfl) rfl rfl rfl ?_
  refine qU ?_
  refine qQ ?_
  refine qJ ?_
  refine zV rfl (by decide) ?_
  refine zU ?_
  refine qQ ?_
  refine qJ ?_
  refine zK ?_
  refine qJ ?_
  refine qZ ?_
  refine qK (qY rfl) rfl rfl rfl ?_
  refine qK (qW rfl) rfl rfl rfl ?_
  refine qU ?_
  refine qQ ?_
  refine jY (ks := [2, 3, 4, 5, 6, 7, 8, 9, 10, 13, 16]) rfl ?_
  refine yX 13 mo (by kernel_rfl) ?_
  simp only [List.take_succ_cons, List.take_zero, List.drop_succ_cons, List.drop_zero]
  refine qG (zQ 8 ty88 rfl rfl rfl) rfl rfl rfl ?_
  refine qG (qY rfl) rfl rfl rfl ?_
  refine qG (qY rfl) rfl rfl rfl ?_
  refine qG (qX ar132 rfl rfl (by first | decide | omega) (by first | decide | omega)) rfl rfl rfl ?_
  refine qG (qX ar126 rfl rfl (by first | decide | omega) (by first | decide | omega)) rfl rfl rfl ?_
  refine qG (zQ 2 ty88 rfl rfl rfl) rfl rfl rfl ?_
  refine qG (qY rfl) rfl rfl rfl ?_
  refine qG (qY rfl) rfl rfl rfl ?_
  refine qG (qX ar132 rfl rfl (by first | decide | omega) (by first | decide | omega)) rfl rfl rfl ?_
  refine qG (qX ar126 rfl rfl (by first | decide | omega) (by first | decide | omega)) rfl rfl rfl ?_
  refine qG (zQ 3 ty88 rfl rfl rfl) rfl rfl rfl ?_
  refine yG (F := iv) (zY en162 rfl (fun w _ => iMul _ _ _ _  w)) rfl rfl rfl ?_; intro r30_22 hr30_22
  refine yG (F := iv) (zY en161 rfl (fun w _ => iAdd _ _ _ _  w)) rfl rfl rfl ?_; intro r31_22 hr31_22
  refine jK ?_
  refine yV ?_
  refine zZ 8 ty88 rfl rfl rfl rfl rfl rfl rfl rfl ?_
  refine qU ?_
  refine qV ?_
  refine qQ ?_
  refine qZ ?_
  refine qK (yJ rfl rfl (by first | exact zG ⟨by omega, by omega⟩ | rfl)) rfl rfl rfl ?_
  refine qK (qY rfl) rfl rfl rfl ?_
  refine qU ?_
  refine zW ?_
  refine yZ ?_
  refine qJ ?_
  refine qZ ?_
  refine qK (yK rfl rfl) rfl rfl rfl ?_
  refine qU ?_
  refine qQ ?_
  refine qJ ?_
  refine zV rfl (by decide) ?_
  refine zU ?_
  refine qQ ?_
  refine qJ ?_
  refine zK ?_
  refine qJ ?_
  refine qZ ?_
  refine qK (qY rfl) rfl rfl rfl ?_
  refine qK (qW rfl) rfl rfl rfl ?_
  refine qU ?_
  refine qQ ?_
  refine jY (ks := [2, 3, 4, 5, 6, 7, 8, 9, 10, 13, 16]) rfl ?_
  refine yX 13 mo (by kernel_rfl) ?_
  simp only [List.take_succ_cons, List.take_zero, List.drop_succ_cons, List.drop_zero]
  refine qG (zQ 8 ty88 rfl rfl rfl) rfl rfl rfl ?_
  refine qG (qY rfl) rfl rfl rfl ?_
  refine qG (qY rfl) rfl rfl rfl ?_
  refine qG (qX ar132 rfl rfl (by first | decide | omega) (by first | decide | omega)) rfl rfl rfl ?_
  refine qG (qX ar126 rfl rfl (by first | decide | omega) (by first | decide | omega)) rfl rfl rfl ?_
  refine qG (zQ 2 ty88 rfl rfl rfl) rfl rfl rfl ?_
  refine qG (qY rfl) rfl rfl rfl ?_
  refine qG (qY rfl) rfl rfl rfl ?_
  refine qG (qX ar132 rfl rfl (by first | decide | omega) (by first | decide | omega)) rfl rfl rfl ?_
  refine qG (qX ar126 rfl rfl (by first | decide | omega) (by first | decide | omega)) rfl rfl rfl ?_
  refine qG (zQ 3 ty88 rfl rfl rfl) rfl rfl rfl ?_
  refine yG (F := iv) (zY en162 rfl (fun w _ => iMul _ _ _ _  w)) rfl rfl rfl ?_; intro r30_23 hr30_23
  refine yG (F := iv) (zY en161 rfl (fun w _ => iAdd _ _ _ _  w)) rfl rfl rfl ?_; intro r31_23 hr31_23
  refine jK ?_
  refine yV ?_
  refine zZ 8 ty88 rfl rfl rfl rfl rfl rfl rfl rfl ?_
  refine qU ?_
  refine qV ?_
  refine qQ ?_
  refine qZ ?_
  refine qK (yJ rfl rfl (by first | exact zG ⟨by omega, by omega⟩ | rfl)) rfl rfl rfl ?_
  refine qK (qY rfl) rfl rfl rfl ?_
  refine qU ?_
  refine zW ?_
  refine yZ ?_
  refine qJ ?_
  refine qZ ?_
  refine qK (yK rfl rfl) rfl rfl rfl ?_
  refine qU ?_
  refine qQ ?_
  refine qJ ?_
  refine zV rfl (by decide) ?_
  refine zU ?_
  refine qQ ?_
  refine qJ ?_
  refine zK ?_
  refine qJ ?_
  refine qZ ?_
  refine qK (qY rfl) rfl rfl rfl ?_
  refine qK (qW rfl) rfl rfl rfl ?_
  refine qU ?_
  refine qQ ?_
  refine jY (ks := [2, 3, 4, 5, 6, 7, 8, 9, 10, 13, 16]) rfl ?_
  refine yX 13 mo (by kernel_rfl) ?_
  simp only [List.take_succ_cons, List.take_zero, List.drop_succ_cons, List.drop_zero]
  refine qG (zQ 8 ty88 rfl rfl rfl) rfl rfl rfl ?_
  refine qG (qY rfl) rfl rfl rfl ?_
  refine qG (qY rfl) rfl rfl rfl ?_
  refine qG (qX ar132 rfl rfl (by first | decide | omega) (by first | decide | omega)) rfl rfl rfl ?_
  refine qG (qX ar126 rfl rfl (by first | decide | omega) (by first | decide | omega)) rfl rfl rfl ?_
  refine qG (zQ 2 ty88 rfl rfl rfl) rfl rfl rfl ?_
  refine qG (qY rfl) rfl rfl rfl ?_
  refine qG (qY rfl) rfl rfl rfl ?_
  refine qG (qX ar132 rfl rfl (by first | decide | omega) (by first | decide | omega)) rfl rfl rfl ?_
  refine qG (qX ar126 rfl rfl (by first | decide | omega) (by first | decide | omega)) rfl rfl rfl ?_
  refine qG (zQ 3 ty88 rfl rfl rfl) rfl rfl rfl ?_
  refine yG (F := iv) (zY en162 rfl (fun w _ => iMul _ _ _ _  w)) rfl rfl rfl ?_; intro r30_24 hr30_24
  refine yG (F := iv) (zY en161 rfl (fun w _ => iAdd _ _ _ _  w)) rfl rfl rfl ?_; intro r31_24 hr31_24
  refine jK ?_
  refine yV ?_
  refine zZ 8 ty88 rfl rfl rfl rfl rfl rfl rfl rfl ?_
  refine qU ?_
  refine qV ?_
  refine qQ ?_
  refine qZ ?_
  refine qK (yJ rfl rfl (by first | exact zG ⟨by omega, by omega⟩ | rfl)) rfl rfl rfl ?_
  refine qK (qY rfl) rfl rfl rfl ?_
  refine qU ?_
  refine zW ?_
  refine yZ ?_
  refine qJ ?_
  refine qZ ?_
  refine qK (yK rfl rfl) rfl rfl rfl ?_
  refine qU ?_
  refine qQ ?_
  refine qJ ?_
  refine jW rfl (by decide) ?_
  refine kH ?_
  refine zX ?_
  refine zX ?_
  refine yH ?_
  refine qQ ?_
  refine jY (ks := [2, 3, 4, 5, 6, 7, 8, 9, 10, 13, 16]) rfl ?_
  refine yX 11 mo (by kernel_rfl) ?_
  simp only [List.take_succ_cons, List.take_zero, List.drop_succ_cons, List.drop_zero]
  refine qG (qY rfl) rfl rfl rfl ?_
  refine qG (qY rfl) rfl rfl rfl ?_
  refine qG (qH fa88_0 rfl) rfl rfl rfl ?_
  refine qG (zJ 8 ty2 rfl rfl rfl) rfl rfl rfl ?_
  refine yG (F := vI) (zY en171 rfl (fun w _ => mLimited _  w)) rfl rfl rfl ?_; intro r37_8 hr37_8
  refine qG (qH fa88_1 rfl) rfl rfl rfl ?_
  refine qG (zJ 8 ty2 rfl rfl rfl) rfl rfl rfl ?_
  refine yG (F := vI) (zY en171 rfl (fun w _ => mLimited _  w)) rfl rfl rfl ?_; intro r40_8 hr40_8
  refine qG (jV la88 rfl rfl) rfl rfl rfl ?_
  refine qG (qX ar132 rfl rfl (by first | decide | omega) (by first | decide | omega)) rfl rfl rfl ?_
  refine qG (qX ar126 rfl rfl (by first | decide | omega) (by first | decide | omega)) rfl rfl rfl ?_
  refine jK ?_
  refine yV ?_
  refine zZ 5 ty88 rfl rfl rfl rfl rfl rfl rfl rfl ?_
  refine qU ?_
  refine qV ?_
  refine qQ ?_
  refine qZ ?_
  refine qK (yJ rfl rfl (by first | exact zG ⟨by omega, by omega⟩ | rfl)) rfl rfl rfl ?_
  refine qK (qY rfl) rfl rfl rfl ?_
  refine qU ?_
  refine zW ?_
  refine yZ ?_
  refine qJ ?_
  refine qZ ?_
  refine qK (yK rfl rfl) rfl rfl rfl ?_
  refine qU ?_
  refine qQ ?_
  refine qJ ?_
  refine zV rfl (by decide) ?_
  refine zU ?_
  refine qQ ?_
  refine qJ ?_
  refine zK ?_
  refine qJ ?_
  refine qZ ?_
  refine qK (qY rfl) rfl rfl rfl ?_
  refine qK (qW rfl) rfl rfl rfl ?_
  refine qU ?_
  refine qQ ?_
  refine qJ ?_
  refine doC_keepH (ks := [2, 3, 4, 5]) rfl ?_
  refine qZ ?_
  refine jZ 8 ze88 rfl rfl rfl ?_; intro b8_9
  refine qU ?_
  refine qQ ?_
  refine qJ ?_
  refine qJ ?_
  refine qZ ?_
  refine qK (qY rfl) rfl rfl rfl ?_
  refine qU ?_
  refine qQ ?_
  refine zK ?_
  refine kX 4 ?_
  refine yZ ?_
  refine qJ ?_
  refine qZ ?_
  refine qK (yK rfl rfl) rfl rfl rfl ?_
  refine qU ?_
  refine qQ ?_
  refine qJ ?_
  refine zV rfl (by decide) ?_
  refine zU ?_
  refine qQ ?_
  refine qJ ?_
  refine zK ?_
  refine qJ ?_
  refine qZ ?_
  refine qK (qY rfl) rfl rfl rfl ?_
  refine qK (qW rfl) rfl rfl rfl ?_
  refine qU ?_
  refine qQ ?_
  refine jY (ks := [2, 3, 4, 5, 6, 7, 8, 9, 10, 13, 16]) rfl ?_
  refine yX 13 mo (by kernel_rfl) ?_
  simp only [List.take_succ_cons, List.take_zero, List.drop_succ_cons, List.drop_zero]
  refine qG (zQ 8 ty88 rfl rfl rfl) rfl rfl rfl ?_
  refine qG (qY rfl) rfl rfl rfl ?_
  refine qG (qY rfl) rfl rfl rfl ?_
  refine qG (qX ar132 rfl rfl (by first | decide | omega) (by first | decide | omega)) rfl rfl rfl ?_
  refine qG (qX ar126 rfl rfl (by first | decide | omega) (by first | decide | omega)) rfl rfl rfl ?_
  refine qG (zQ 2 ty88 rfl rfl rfl) rfl rfl rfl ?_
  refine qG (qY rfl) rfl rfl rfl ?_
  refine qG (qY rfl) rfl rfl rfl ?_
  refine qG (qX ar132 rfl rfl (by first | decide | omega) (by first | decide | omega)) rfl rfl rfl ?_
  refine qG (qX ar126 rfl rfl (by first | decide | omega) (by first | decide | omega)) rfl rfl rfl ?_
  refine qG (zQ 3 ty88 rfl rfl rfl) rfl rfl rfl ?_
  refine yG (F := iv) (zY en162 rfl (fun w _ => iMul _ _ _ _  w)) rfl rfl rfl ?_; intro r30_25 hr30_25
  refine yG (F := iv) (zY en161 rfl (fun w _ => iAdd _ _ _ _  w)) rfl rfl rfl ?_; intro r31_25 hr31_25
  refine jK ?_
  refine yV ?_
  refine zZ 8 ty88 rfl rfl rfl rfl rfl rfl rfl rfl ?_
  refine qU ?_
  refine qV ?_
  refine qQ ?_
  refine qZ ?_
  refine qK (yJ rfl rfl (by first | exact zG ⟨by omega, by omega⟩ | rfl)) rfl rfl rfl ?_
  refine qK (qY rfl) rfl rfl rfl ?_
  refine qU ?_
  refine zW ?_
  refine yZ ?_
  refine qJ ?_
  refine qZ ?_
  refine qK (yK rfl rfl) rfl rfl rfl ?_
  refine qU ?_
  refine qQ ?_
  refine qJ ?_
  refine zV rfl (by decide) ?_
  refine zU ?_
  refine qQ ?_
  refine qJ ?_
  refine zK ?_
  refine qJ ?_
  refine qZ ?_
  refine qK (qY rfl) rfl rfl rfl ?_
  refine qK (qW rfl) rfl rfl rfl ?_
  refine qU ?_
  refine qQ ?_
  refine jY (ks := [2, 3, 4, 5, 6, 7, 8, 9, 10, 13, 16]) rfl ?_
  refine yX 13 mo (by kernel_rfl) ?_
  simp only [List.take_succ_cons, List.take_zero, List.drop_succ_cons, List.drop_zero]
  refine qG (zQ 8 ty88 rfl rfl rfl) rfl rfl rfl ?_
  refine qG (qY rfl) rfl rfl rfl ?_
  refine qG (qY rfl) rfl rfl rfl ?_
  refine qG (qX ar132 rfl rfl (by first | decide | omega) (by first | decide | omega)) rfl rfl rfl ?_
  refine qG (qX ar126 rfl rfl (by first | decide | omega) (by first | decide | omega)) rfl rfl rfl ?_
  refine qG (zQ 2 ty88 rfl rfl rfl) rfl rfl rfl ?_
  refine qG (qY rfl) rfl rfl rfl ?_
  refine qG (qY rfl) rfl rfl rfl ?_
  refine qG (qX ar132 rfl rfl (by first | decide | omega) (by first | decide | omega)) rfl rfl rfl ?_
  refine qG (qX ar126 rfl rfl (by first | decide | omega) (by first | decide | omega)) rfl rfl rfl ?_
  refine qG (zQ 3 ty88 rfl rfl rfl) rfl rfl rfl ?_
  refine yG (F := iv) (zY en162 rfl (fun w _ => iMul _ _ _ _  w)) rfl rfl rfl ?_; intro r30_26 hr30_26
  refine yG (F := iv) (zY en161 rfl (fun w _ => iAdd _ _ _ _  w)) rfl rfl rfl ?_; intro r31_26 hr31_26
  refine jK ?_
  refine yV ?_
  refine zZ 8 ty88 rfl rfl rfl rfl rfl rfl rfl rfl ?_
  refine qU ?_
  refine qV ?_
  refine qQ ?_
  refine qZ ?_
  refine qK (yJ rfl rfl (by first | exact zG ⟨by omega, by omega⟩ | rfl)) rfl rfl rfl ?_
  refine qK (qY rfl) rfl rfl rfl ?_
  refine qU ?_
  refine zW ?_
  refine yZ ?_
  refine qJ ?_
  refine qZ ?_
  refine qK (yK rfl rfl) rfl rfl rfl ?_
  refine qU ?_
  refine qQ ?_
  refine qJ ?_
  refine zV rfl (by decide) ?_
  refine zU ?_
  refine qQ ?_
  refine qJ ?_
  refine zK ?_
  refine qJ ?_
  refine qZ ?_
  refine qK (qY rfl) rfl rfl rfl ?_
  refine qK (qW rfl) rfl rfl rfl ?_
  refine qU ?_
  refine qQ ?_
  refine jY (ks := [2, 3, 4, 5, 6, 7, 8, 9, 10, 13, 16]) rfl ?_
  refine yX 13 mo (by kernel_rfl) ?_
  simp only [List.take_succ_cons, List.take_zero, List.drop_succ_cons, List.drop_zero]
  refine qG (zQ 8 ty88 rfl rfl rfl) rfl rfl rfl ?_
  refine qG (qY rfl) rfl rfl rfl ?_
  refine qG (qY rfl) rfl rfl rfl ?_
  refine qG (qX ar132 rfl rfl (by first | decide | omega) (by first | decide | omega)) rfl rfl rfl ?_
  refine qG (qX ar126 rfl rfl (by first | decide | omega) (by first | decide | omega)) rfl rfl rfl ?_
  refine qG (zQ 2 ty88 rfl rfl rfl) rfl rfl rfl ?_
  refine qG (qY rfl) rfl rfl rfl ?_
  refine qG (qY rfl) rfl rfl rfl ?_
  refine qG (qX ar132 rfl rfl (by first | decide | omega) (by first | decide | omega)) rfl rfl rfl ?_
  refine qG (qX ar126 rfl rfl (by first | decide | omega) (by first | decide | omega)) rfl rfl rfl ?_
  refine qG (zQ 3 ty88 rfl rfl rfl) rfl rfl rfl ?_
  refine yG (F := iv) (zY en162 rfl (fun w _ => iMul _ _ _ _  w)) rfl rfl rfl ?_; intro r30_27 hr30_27
  refine yG (F := iv) (zY en161 rfl (fun w _ => iAdd _ _ _ _  w)) rfl rfl rfl ?_; intro r31_27 hr31_27
  refine jK ?_
  refine yV ?_
  refine zZ 8 ty88 rfl rfl rfl rfl rfl rfl rfl rfl ?_
  refine qU ?_
  refine qV ?_
  refine qQ ?_
  refine qZ ?_
  refine qK (yJ rfl rfl (by first | exact zG ⟨by omega, by omega⟩ | rfl)) rfl rfl rfl ?_
  refine qK (qY rfl) rfl rfl rfl ?_
  refine qU ?_
  refine zW ?_
  refine yZ ?_
  refine qJ ?_
  refine qZ ?_
  refine qK (yK rfl rfl) rfl rfl rfl ?_
  refine qU ?_
  refine qQ ?_
  refine qJ ?_
  refine jW rfl (by decide) ?_
  refine kH ?_
  refine zX ?_
  refine zX ?_
  refine yH ?_
  refine qQ ?_
  refine jY (ks := [2, 3, 4, 5, 6, 7, 8, 9, 10, 13, 16]) rfl ?_
  refine yX 11 mo (by kernel_rfl) ?_
  simp only [List.take_succ_cons, List.take_zero, List.drop_succ_cons, List.drop_zero]
  refine qG (qY rfl) rfl rfl rfl ?_
  refine qG (qY rfl) rfl rfl rfl ?_
  refine qG (qH fa88_0 rfl) rfl rfl rfl ?_
  refine qG (zJ 8 ty2 rfl rfl rfl) rfl rfl rfl ?_
  refine yG (F := vI) (zY en171 rfl (fun w _ => mLimited _  w)) rfl rfl rfl ?_; intro r37_9 hr37_9
  refine qG (qH fa88_1 rfl) rfl rfl rfl ?_
  refine qG (zJ 8 ty2 rfl rfl rfl) rfl rfl rfl ?_
  refine yG (F := vI) (zY en171 rfl (fun w _ => mLimited _  w)) rfl rfl rfl ?_; intro r40_9 hr40_9
  refine qG (jV la88 rfl rfl) rfl rfl rfl ?_
  refine qG (qX ar132 rfl rfl (by first | decide | omega) (by first | decide | omega)) rfl rfl rfl ?_
  refine qG (qX ar126 rfl rfl (by first | decide | omega) (by first | decide | omega)) rfl rfl rfl ?_
  refine jK ?_
  refine yV ?_
  refine zZ 5 ty88 rfl rfl rfl rfl rfl rfl rfl rfl ?_
  refine qU ?_
  refine qV ?_
  refine qQ ?_
  refine qZ ?_
  refine qK (yJ rfl rfl (by first | exact zG ⟨by omega, by omega⟩ | rfl)) rfl rfl rfl ?_
  refine qK (qY rfl) rfl rfl rfl ?_
  refine qU ?_
  refine zW ?_
  refine yZ ?_
  refine qJ ?_
  refine qZ ?_
  refine qK (yK rfl rfl) rfl rfl rfl ?_
  refine qU ?_
  refine qQ ?_
  refine qJ ?_
  refine jW rfl (by decide) ?_
  refine kH ?_
  refine zX ?_
  refine zX ?_
  refine yH ?_
  refine qV ?_
  refine qQ ?_
  refine qZ ?_
  refine qK (yJ rfl rfl (by first | exact zG ⟨by omega, by omega⟩ | rfl)) rfl rfl rfl ?_
  refine qK (qY rfl) rfl rfl rfl ?_
  refine qU ?_
  refine zW ?_
  refine yZ ?_
  refine qJ ?_
  refine qZ ?_
  refine qK (yK rfl rfl) rfl rfl rfl ?_
  refine qU ?_
  refine qQ ?_
  refine qJ ?_
  refine jW rfl (by decide) ?_
  refine kH ?_
  refine zX ?_
  refine zX ?_
  refine yH ?_
  refine qQ ?_
  refine qJ ?_
  refine qZ ?_
  refine qK (zQ 5 ty132 rfl rfl rfl) rfl rfl rfl ?_
  refine zZ 4 ty132 rfl rfl rfl rfl rfl rfl rfl rfl ?_
  refine qU ?_
  refine qQ ?_
  refine yU ?_
  refine zH (rs := [.cell 4 132]) rfl (resC (yY 4 rfl rfl ty132 rfl) (resN)) (congrArg (m3) (?_ : ⟨⟨⟨_, _⟩, ⟨_, _⟩, ⟨_, _⟩⟩, ⟨⟨_, _⟩, ⟨_, _⟩, ⟨_, _⟩⟩, ⟨⟨_, _⟩, ⟨_, _⟩, ⟨_, _⟩⟩⟩ = M3.mul (⟨⟨⟨p0, p1⟩, ⟨p2, p3⟩, ⟨p4, p5⟩⟩, ⟨⟨p6, p7⟩, ⟨p8, p9⟩, ⟨p10, p11⟩⟩, ⟨⟨p12, p13⟩, ⟨p14, p15⟩, ⟨p16, p17⟩⟩⟩ : M3) (⟨⟨⟨q0, q1⟩, ⟨q2, q3⟩, ⟨q4, q5⟩⟩, ⟨⟨q6, q7⟩, ⟨q8, q9⟩, ⟨q10, q11⟩⟩, ⟨⟨q12, q13⟩, ⟨q14, q15⟩, ⟨q16, q17⟩⟩⟩ : M3)))
  subst_vars; simp only [add_zero_mul']; rfl
end Go.Proofs.YtnlnbnjnapofmaaGreat
namespace Go.Proofs.YtnlnbnjnapofmaaGreat
open Go.Sx
theorem la29 : layoutOf Tryz.prog 29 = some ([.int .i64 0, .int .i64 0, .int .i64 0], [(0, 1), (1, 1), (2, 1)]) := by kernel_rfl
theorem en75 : Enters Tryz.prog 75 := yW Tryz.func75 (by kernel_rfl) (by kernel_rfl)
theorem ze134 : zeroIs Tryz.prog 134 (.agg #[.int .i64 0, .int .i64 0, .int .i64 0, .int .i64 0, .int .i64 0, .int .i64 0, .int .i64 0, .int .i64 0, .int .i64 0, .int .i64 0, .int .i64 0, .int .i64 0, .int .i64 0, .int .i64 0, .int .i64 0, .int .i64 0, .int .i64 0, .int .i64 0, .int .i64 0, .int .i64 0, .int .i64 0, .int .i64 0, .int .i64 0, .int .i64 0]) := by unfold zeroIs; kernel_rfl
theorem en165 : Enters Tryz.prog 165 := yW Tryz.func165 (by kernel_rfl) (by kernel_rfl)
theorem la134 : layoutOf Tryz.prog 134 = some ([.int .i64 0, .int .i64 0, .int .i64 0, .int .i64 0, .int .i64 0, .int .i64 0, .int .i64 0, .int .i64 0, .int .i64 0, .int .i64 0, .int .i64 0, .int .i64 0, .int .i64 0, .int .i64 0, .int .i64 0, .int .i64 0, .int .i64 0, .int .i64 0, .int .i64 0, .int .i64 0, .int .i64 0, .int .i64 0, .int .i64 0, .int .i64 0], [(0, 18), (18, 6)]) := by kernel_rfl
theorem ty134 : tyB Tryz.prog 134 true 24 = true := by kernel_rfl
theorem en184 : Enters Tryz.prog 184 := yW Tryz.func184 (by kernel_rfl) (by kernel_rfl)
theorem en157 : Enters Tryz.prog 157 := yW Tryz.func157 (by kernel_rfl) (by kernel_rfl)
theorem en183 : Enters Tryz.prog 183 := yW Tryz.func183 (by kernel_rfl) (by kernel_rfl)
theorem fa134_1 : fieldB Tryz.prog 134 1 18 = true := by kernel_rfl
theorem fa134_0 : fieldB Tryz.prog 134 0 0 = true := by kernel_rfl
theorem en142 : Enters Tryz.prog 142 := yW Tryz.func142 (by kernel_rfl) (by kernel_rfl)
theorem en170 : Enters Tryz.prog 170 := yW Tryz.func170 (by kernel_rfl) (by kernel_rfl)
theorem en159 : Enters Tryz.prog 159 := yW Tryz.func159 (by kernel_rfl) (by kernel_rfl)
theorem en160 : Enters Tryz.prog 160 := yW Tryz.func160 (by kernel_rfl) (by kernel_rfl)
theorem en169 : Enters Tryz.prog 169 := yW Tryz.func169 (by kernel_rfl) (by kernel_rfl)
theorem pStill  (w : World) : Calls Tryz.prog 184 [].toArray w (Rets (v3 (V3.zero)) (w)) := by
  refine yQ (n := 3) Tryz.func184 rfl rfl rfl ?_
  refine qJ ?_
  refine qZ ?_
  refine jZ 0 ze127 rfl rfl rfl ?_; intro b0
  refine qU ?_
  refine qQ ?_
  refine qJ ?_
  refine qZ ?_
  refine qK (jV la29 rfl rfl) rfl rfl rfl ?_
  refine kY (F := v3) (zY en75 rfl (fun w _ => mPoint _ _ _  w)) rfl rfl rfl ?_; intro r2 hr2
  refine zZ 0 ty127 rfl rfl rfl rfl rfl rfl rfl rfl ?_
  refine qU ?_
  refine qQ ?_
  refine yU ?_
  refine zH (rs := [.cell 0 127]) rfl (resC (yY 0 rfl rfl ty127 rfl) (resN)) (congrArg (v3) (?_ : ⟨⟨_, _⟩, ⟨_, _⟩, ⟨_, _⟩⟩ = V3.zero))
  subst_vars; rfl
theorem pShift (va0 va1 va2 va3 va4 va5 : Int) (w : World) : Calls Tryz.prog 157 [.agg #[.int .i64 va0, .int .i64 va1, .int .i64 va2, .int .i64 va3, .int .i64 va4, .int .i64 va5]].toArray w (Rets (po (Po.shift (⟨⟨va0, va1⟩, ⟨va2, va3⟩, ⟨va4, va5⟩⟩ : V3))) (w)) := by
  refine yQ (n := 6) Tryz.func157 rfl rfl rfl ?_
  refine qJ ?_
  refine qZ ?_
  refine kK 1 rfl rfl rfl rfl ?_; intro b1
  refine jZ 2 ze134 rfl rfl rfl ?_; intro b2
  refine qU ?_
  refine qQ ?_
  refine qJ ?_
  refine yX 3 mo (by kernel_rfl) ?_
  simp only [List.take_succ_cons, List.take_zero, List.drop_succ_cons, List.drop_zero]
  refine yG (F := m3) (zY en165 rfl (fun w _ => mIdentity   w)) rfl rfl rfl ?_; intro r3 hr3
  refine qG (zQ 1 ty127 rfl rfl rfl) rfl rfl rfl ?_
  refine qG (jV la134 rfl rfl) rfl rfl rfl ?_
  refine jK ?_
  refine yV ?_
  refine zZ 2 ty134 rfl rfl rfl rfl rfl rfl rfl rfl ?_
  refine qU ?_
  refine qQ ?_
  refine yU ?_
  refine zH (rs := [.cell 2 134]) rfl (resC (yY 2 rfl rfl ty134 rfl) (resN)) (congrArg (po) (?_ : ⟨⟨⟨⟨_, _⟩, ⟨_, _⟩, ⟨_, _⟩⟩, ⟨⟨_, _⟩, ⟨_, _⟩, ⟨_, _⟩⟩, ⟨⟨_, _⟩, ⟨_, _⟩, ⟨_, _⟩⟩⟩, ⟨⟨_, _⟩, ⟨_, _⟩, ⟨_, _⟩⟩⟩ = Po.shift (⟨⟨va0, va1⟩, ⟨va2, va3⟩, ⟨va4, va5⟩⟩ : V3)))
  subst_vars; rfl
theorem pIdentity  (w : World) : Calls Tryz.prog 177 [].toArray w (Rets (po (Po.rest)) (w)) := by
  refine yQ (n := 3) Tryz.func177 rfl rfl rfl ?_
  refine qJ ?_
  refine qZ ?_
  refine jZ 0 ze134 rfl rfl rfl ?_; intro b0
  refine qU ?_
  refine qQ ?_
  refine qJ ?_
  refine qZ ?_
  refine kY (F := v3) (zY en184 rfl (fun w _ => pStill   w)) rfl rfl rfl ?_; intro r1 hr1
  refine kY (F := po) (zY en157 rfl (fun w _ => pShift _ _ _ _ _ _  w)) rfl rfl rfl ?_; intro r2 hr2
  refine zZ 0 ty134 rfl rfl rfl rfl rfl rfl rfl rfl ?_
  refine qU ?_
  refine qQ ?_
  refine yU ?_
  refine zH (rs := [.cell 0 134]) rfl (resC (yY 0 rfl rfl ty134 rfl) (resN)) (congrArg (po) (?_ : ⟨⟨⟨⟨_, _⟩, ⟨_, _⟩, ⟨_, _⟩⟩, ⟨⟨_, _⟩, ⟨_, _⟩, ⟨_, _⟩⟩, ⟨⟨_, _⟩, ⟨_, _⟩, ⟨_, _⟩⟩⟩, ⟨⟨_, _⟩, ⟨_, _⟩, ⟨_, _⟩⟩⟩ = Po.rest))
  subst_vars; rfl
theorem pTurn (axis : Int) (a0 a1 : Int) (w : World) : Calls Tryz.prog 176 [.int .i64 axis, .agg #[.int .i64 a0, .int .i64 a1]].toArray w (Rets (po (Po.turn axis (⟨a0, a1⟩ : Iv))) (w)) := by
  refine yQ (n := 10) Tryz.func176 rfl rfl rfl ?_
  refine qJ ?_
  refine qZ ?_
  refine kK 3 rfl rfl rfl rfl ?_; intro b3
  refine jZ 4 ze134 rfl rfl rfl ?_; intro b4
  refine qU ?_
  refine qQ ?_
  refine qJ ?_
  refine qZ ?_
  refine qK (qY rfl) rfl rfl rfl ?_
  refine qK (zQ 3 ty88 rfl rfl rfl) rfl rfl rfl ?_
  refine kY (F := m3) (zY en183 rfl (fun w _ => mTurn _ _ _  w)) rfl rfl rfl ?_; intro r7 hr7
  refine kY (F := v3) (zY en184 rfl (fun w _ => pStill   w)) rfl rfl rfl ?_; intro r8 hr8
  refine qK (jV la134 rfl rfl) rfl rfl rfl ?_
  refine zZ 4 ty134 rfl rfl rfl rfl rfl rfl rfl rfl ?_
  refine qU ?_
  refine qQ ?_
  refine yU ?_
  refine zH (rs := [.cell 4 134]) rfl (resC (yY 4 rfl rfl ty134 rfl) (resN)) (congrArg (po) (?_ : ⟨⟨⟨⟨_, _⟩, ⟨_, _⟩, ⟨_, _⟩⟩, ⟨⟨_, _⟩, ⟨_, _⟩, ⟨_, _⟩⟩, ⟨⟨_, _⟩, ⟨_, _⟩, ⟨_, _⟩⟩⟩, ⟨⟨_, _⟩, ⟨_, _⟩, ⟨_, _⟩⟩⟩ = Po.turn axis (⟨a0, a1⟩ : Iv)))
  subst_vars; rfl
theorem pMover (pa0 pa1 pa2 pa3 pa4 pa5 pa6 pa7 pa8 pa9 pa10 pa11 pa12 pa13 pa14 pa15 pa16 pa17 pa18 pa19 pa20 pa21 pa22 pa23 : Int) (w : World) : Calls Tryz.prog 159 [.agg #[.int .i64 pa0, .int .i64 pa1, .int .i64 pa2, .int .i64 pa3, .int .i64 pa4, .int .i64 pa5, .int .i64 pa6, .int .i64 pa7, .int .i64 pa8, .int .i64 pa9, .int .i64 pa10, .int .i64 pa11, .int .i64 pa12, .int .i64 pa13, .int .i64 pa14, .int .i64 pa15, .int .i64 pa16, .int .i64 pa17, .int .i64 pa18, .int .i64 pa19, .int .i64 pa20, .int .i64 pa21, .int .i64 pa22, .int .i64 pa23]].toArray w (RetsT (NewF w (fun b => .func (.func 169) #[] #[.pointer (some ⟨b, 0, none⟩)]) [.int .i64 pa0, .int .i64 pa1, .int .i64 pa2, .int .i64 pa3, .int .i64 pa4, .int .i64 pa5, .int .i64 pa6, .int .i64 pa7, .int .i64 pa8, .int .i64 pa9, .int .i64 pa10, .int .i64 pa11, .int .i64 pa12, .int .i64 pa13, .int .i64 pa14, .int .i64 pa15, .int .i64 pa16, .int .i64 pa17, .int .i64 pa18, .int .i64 pa19, .int .i64 pa20, .int .i64 pa21, .int .i64 pa22, .int .i64 pa23] 134) w) := by
  refine yQ (n := 4) Tryz.func159 rfl rfl rfl ?_
  refine qJ ?_
  refine qZ ?_
  refine kK 1 rfl rfl rfl rfl ?_; intro b1
  refine qK (qW rfl) rfl rfl rfl ?_
  refine qU ?_
  refine qQ ?_
  refine qJ ?_
  refine qZ ?_
  refine qK (opV_makeFunc rfl rfl) rfl rfl rfl ?_
  refine qK (qW rfl) rfl rfl rfl ?_
  refine qU ?_
  refine qQ ?_
  refine yU ?_
  refine post_ret (rs := [.tmp 2]) rfl (resC (jU rfl) (resN)) rfl ?_
  intro w2 k
  exact ⟨_, rfl, k.grow, _, rfl, (k.at (i := 1) rfl).1, (k.at (i := 1) rfl).2⟩
theorem pMove (va0 va1 va2 va3 va4 va5 : Int) (b : Nat) (pa0 pa1 pa2 pa3 pa4 pa5 pa6 pa7 pa8 pa9 pa10 pa11 pa12 pa13 pa14 pa15 pa16 pa17 pa18 pa19 pa20 pa21 pa22 pa23 : Int) (w : World) (hb : w.heap[b]? = some (.cells [.int .i64 pa0, .int .i64 pa1, .int .i64 pa2, .int .i64 pa3, .int .i64 pa4, .int .i64 pa5, .int .i64 pa6, .int .i64 pa7, .int .i64 pa8, .int .i64 pa9, .int .i64 pa10, .int .i64 pa11, .int .i64 pa12, .int .i64 pa13, .int .i64 pa14, .int .i64 pa15, .int .i64 pa16, .int .i64 pa17, .int .i64 pa18, .int .i64 pa19, .int .i64 pa20, .int .i64 pa21, .int .i64 pa22, .int .i64 pa23].toArray 134)) : Calls Tryz.prog 169 [.agg #[.int .i64 va0, .int .i64 va1, .int .i64 va2, .int .i64 va3, .int .i64 va4, .int .i64 va5], .pointer (some ⟨b, 0, none⟩)].toArray w (Rets (v3 (V3.add (Po.t ⟨⟨⟨⟨pa0, pa1⟩, ⟨pa2, pa3⟩, ⟨pa4, pa5⟩⟩, ⟨⟨pa6, pa7⟩, ⟨pa8, pa9⟩, ⟨pa10, pa11⟩⟩, ⟨⟨pa12, pa13⟩, ⟨pa14, pa15⟩, ⟨pa16, pa17⟩⟩⟩, ⟨⟨pa18, pa19⟩, ⟨pa20, pa21⟩, ⟨pa22, pa23⟩⟩⟩) (M3.apply (Po.r ⟨⟨⟨⟨pa0, pa1⟩, ⟨pa2, pa3⟩, ⟨pa4, pa5⟩⟩, ⟨⟨pa6, pa7⟩, ⟨pa8, pa9⟩, ⟨pa10, pa11⟩⟩, ⟨⟨pa12, pa13⟩, ⟨pa14, pa15⟩, ⟨pa16, pa17⟩⟩⟩, ⟨⟨pa18, pa19⟩, ⟨pa20, pa21⟩, ⟨pa22, pa23⟩⟩⟩) (⟨⟨va0, va1⟩, ⟨va2, va3⟩, ⟨va4, va5⟩⟩ : V3)))) (w)) := by
  refine yQ (n := 11) Tryz.func169 rfl rfl rfl ?_
  refine qJ ?_
  refine qZ ?_
  refine kK 2 rfl rfl rfl rfl ?_; intro b2
  refine jZ 3 ze127 rfl rfl rfl ?_; intro b3
  refine qU ?_
  refine qQ ?_
  refine qJ ?_
  refine yX 7 mo (by kernel_rfl) ?_
  simp only [List.take_succ_cons, List.take_zero, List.drop_succ_cons, List.drop_zero]
  refine qG (qH fa134_1 rfl) rfl rfl rfl ?_
  refine qG (opV_loadA_blk hb ty127 rfl rfl) rfl rfl rfl ?_
  refine qG (qH fa134_0 rfl) rfl rfl rfl ?_
  refine qG (opV_loadA_blk hb ty132 rfl rfl) rfl rfl rfl ?_
  refine qG (zQ 2 ty127 rfl rfl rfl) rfl rfl rfl ?_
  refine yG (F := v3) (zY en142 rfl (fun w _ => mApply _ _ _ _ _ _ _ _ _ _ _ _ _ _ _ _ _ _ _ _ _ _ _ _  w)) rfl rfl rfl ?_; intro r9 hr9
  refine yG (F := v3) (zY en170 rfl (fun w _ => mAdd _ _ _ _ _ _ _ _ _ _ _ _  w)) rfl rfl rfl ?_; intro r10 hr10
  refine jK ?_
  refine yV ?_
  refine zZ 3 ty127 rfl rfl rfl rfl rfl rfl rfl rfl ?_
  refine qU ?_
  refine qQ ?_
  refine yU ?_
  refine zH (rs := [.cell 3 127]) rfl (resC (yY 3 rfl rfl ty127 rfl) (resN)) (congrArg (v3) (?_ : ⟨⟨_, _⟩, ⟨_, _⟩, ⟨_, _⟩⟩ = V3.add (Po.t ⟨⟨⟨⟨pa0, pa1⟩, ⟨pa2, pa3⟩, ⟨pa4, pa5⟩⟩, ⟨⟨pa6, pa7⟩, ⟨pa8, pa9⟩, ⟨pa10, pa11⟩⟩, ⟨⟨pa12, pa13⟩, ⟨pa14, pa15⟩, ⟨pa16, pa17⟩⟩⟩, ⟨⟨pa18, pa19⟩, ⟨pa20, pa21⟩, ⟨pa22, pa23⟩⟩⟩) (M3.apply (Po.r ⟨⟨⟨⟨pa0, pa1⟩, ⟨pa2, pa3⟩, ⟨pa4, pa5⟩⟩, ⟨⟨pa6, pa7⟩, ⟨pa8, pa9⟩, ⟨pa10, pa11⟩⟩, ⟨⟨pa12, pa13⟩, ⟨pa14, pa15⟩, ⟨pa16, pa17⟩⟩⟩, ⟨⟨pa18, pa19⟩, ⟨pa20, pa21⟩, ⟨pa22, pa23⟩⟩⟩) (⟨⟨va0, va1⟩, ⟨va2, va3⟩, ⟨va4, va5⟩⟩ : V3))))
  subst_vars; rfl
theorem pCompose (pa0 pa1 pa2 pa3 pa4 pa5 pa6 pa7 pa8 pa9 pa10 pa11 pa12 pa13 pa14 pa15 pa16 pa17 pa18 pa19 pa20 pa21 pa22 pa23 : Int) (qa0 qa1 qa2 qa3 qa4 qa5 qa6 qa7 qa8 qa9 qa10 qa11 qa12 qa13 qa14 qa15 qa16 qa17 qa18 qa19 qa20 qa21 qa22 qa23 : Int) (w : World) : Calls Tryz.prog 141 [.agg #[.int .i64 pa0, .int .i64 pa1, .int .i64 pa2, .int .i64 pa3, .int .i64 pa4, .int .i64 pa5, .int .i64 pa6, .int .i64 pa7, .int .i64 pa8, .int .i64 pa9, .int .i64 pa10, .int .i64 pa11, .int .i64 pa12, .int .i64 pa13, .int .i64 pa14, .int .i64 pa15, .int .i64 pa16, .int .i64 pa17, .int .i64 pa18, .int .i64 pa19, .int .i64 pa20, .int .i64 pa21, .int .i64 pa22, .int .i64 pa23], .agg #[.int .i64 qa0, .int .i64 qa1, .int .i64 qa2, .int .i64 qa3, .int .i64 qa4, .int .i64 qa5, .int .i64 qa6, .int .i64 qa7, .int .i64 qa8, .int .i64 qa9, .int .i64 qa10, .int .i64 qa11, .int .i64 qa12, .int .i64 qa13, .int .i64 qa14, .int .i64 qa15, .int .i64 qa16, .int .i64 qa17, .int .i64 qa18, .int .i64 qa19, .int .i64 qa20, .int .i64 qa21, .int .i64 qa22, .int .i64 qa23]].toArray w (Rets (po (Po.mul (⟨⟨⟨⟨pa0, pa1⟩, ⟨pa2, pa3⟩, ⟨pa4, pa5⟩⟩, ⟨⟨pa6, pa7⟩, ⟨pa8, pa9⟩, ⟨pa10, pa11⟩⟩, ⟨⟨pa12, pa13⟩, ⟨pa14, pa15⟩, ⟨pa16, pa17⟩⟩⟩, ⟨⟨pa18, pa19⟩, ⟨pa20, pa21⟩, ⟨pa22, pa23⟩⟩⟩ : Po) (⟨⟨⟨⟨qa0, qa1⟩, ⟨qa2, qa3⟩, ⟨qa4, qa5⟩⟩, ⟨⟨qa6, qa7⟩, ⟨qa8, qa9⟩, ⟨qa10, qa11⟩⟩, ⟨⟨qa12, qa13⟩, ⟨qa14, qa15⟩, ⟨qa16, qa17⟩⟩⟩, ⟨⟨qa18, qa19⟩, ⟨qa20, qa21⟩, ⟨qa22, qa23⟩⟩⟩ : Po))) (w)) := by
  refine yQ (n := 18) Tryz.func141 rfl rfl rfl ?_
  refine qJ ?_
  refine qZ ?_
  refine kK 2 rfl rfl rfl rfl ?_; intro b2
  refine kK 3 rfl rfl rfl rfl ?_; intro b3
  refine jZ 4 ze134 rfl rfl rfl ?_; intro b4
  refine qU ?_
  refine qQ ?_
  refine qJ ?_
  refine qZ ?_
  refine qK (zQ 2 ty134 rfl rfl rfl) rfl rfl rfl ?_
  refine doL_callNewF 7 en159 rfl (fun w' _ => pMover _ _ _ _ _ _ _ _ _ _ _ _ _ _ _ _ _ _ _ _ _ _ _ _ w') rfl rfl ?_; intro b7
  refine qK (qW rfl) rfl rfl rfl ?_
  refine qU ?_
  refine qQ ?_
  refine qJ ?_
  refine yX 10 mo (by kernel_rfl) ?_
  simp only [List.take_succ_cons, List.take_zero, List.drop_succ_cons, List.drop_zero]
  refine qG (qH fa134_0 rfl) rfl rfl rfl ?_
  refine qG (zQ 2 ty132 rfl rfl rfl) rfl rfl rfl ?_
  refine qG (qH fa134_0 rfl) rfl rfl rfl ?_
  refine qG (zQ 3 ty132 rfl rfl rfl) rfl rfl rfl ?_
  refine yG (F := m3) (zY en160 rfl (fun w _ => mCompose _ _ _ _ _ _ _ _ _ _ _ _ _ _ _ _ _ _ _ _ _ _ _ _ _ _ _ _ _ _ _ _ _ _ _ _  w)) rfl rfl rfl ?_; intro r12 hr12
  refine qG (qY rfl) rfl rfl rfl ?_
  refine qG (qH fa134_1 rfl) rfl rfl rfl ?_
  refine qG (zQ 3 ty127 rfl rfl rfl) rfl rfl rfl ?_
  refine yG (F := v3) (opV_callV en169 rfl rfl rfl (fun w k => pMove _ _ _ _ _ _ _ _ _ _ _ _ _ _ _ _ _ _ _ _ _ _ _ _ _ _ _ _ _ _ _ w (k.at (i := 7) rfl).2)) rfl rfl rfl ?_; intro r16 hr16
  refine qG (jV la134 rfl rfl) rfl rfl rfl ?_
  refine jK ?_
  refine yV ?_
  refine zZ 4 ty134 rfl rfl rfl rfl rfl rfl rfl rfl ?_
  refine qU ?_
  refine qQ ?_
  refine yU ?_
  refine zH (rs := [.cell 4 134]) rfl (resC (yY 4 rfl rfl ty134 rfl) (resN)) (congrArg (po) (?_ : ⟨⟨⟨⟨_, _⟩, ⟨_, _⟩, ⟨_, _⟩⟩, ⟨⟨_, _⟩, ⟨_, _⟩, ⟨_, _⟩⟩, ⟨⟨_, _⟩, ⟨_, _⟩, ⟨_, _⟩⟩⟩, ⟨⟨_, _⟩, ⟨_, _⟩, ⟨_, _⟩⟩⟩ = Po.mul (⟨⟨⟨⟨pa0, pa1⟩, ⟨pa2, pa3⟩, ⟨pa4, pa5⟩⟩, ⟨⟨pa6, pa7⟩, ⟨pa8, pa9⟩, ⟨pa10, pa11⟩⟩, ⟨⟨pa12, pa13⟩, ⟨pa14, pa15⟩, ⟨pa16, pa17⟩⟩⟩, ⟨⟨pa18, pa19⟩, ⟨pa20, pa21⟩, ⟨pa22, pa23⟩⟩⟩ : Po) (⟨⟨⟨⟨qa0, qa1⟩, ⟨qa2, qa3⟩, ⟨qa4, qa5⟩⟩, ⟨⟨qa6, qa7⟩, ⟨qa8, qa9⟩, ⟨qa10, qa11⟩⟩, ⟨⟨qa12, qa13⟩, ⟨qa14, qa15⟩, ⟨qa16, qa17⟩⟩⟩, ⟨⟨qa18, qa19⟩, ⟨qa20, qa21⟩, ⟨qa22, qa23⟩⟩⟩ : Po)))
  subst_vars; rfl
theorem pApply (pa0 pa1 pa2 pa3 pa4 pa5 pa6 pa7 pa8 pa9 pa10 pa11 pa12 pa13 pa14 pa15 pa16 pa17 pa18 pa19 pa20 pa21 pa22 pa23 : Int) (va0 va1 va2 va3 va4 va5 : Int) (w : World) : Calls Tryz.prog 143 [.agg #[.int .i64 pa0, .int .i64 pa1, .int .i64 pa2, .int .i64 pa3, .int .i64 pa4, .int .i64 pa5, .int .i64 pa6, .int .i64 pa7, .int .i64 pa8, .int .i64 pa9, .int .i64 pa10, .int .i64 pa11, .int .i64 pa12, .int .i64 pa13, .int .i64 pa14, .int .i64 pa15, .int .i64 pa16, .int .i64 pa17, .int .i64 pa18, .int .i64 pa19, .int .i64 pa20, .int .i64 pa21, .int .i64 pa22, .int .i64 pa23], .agg #[.int .i64 va0, .int .i64 va1, .int .i64 va2, .int .i64 va3, .int .i64 va4, .int .i64 va5]].toArray w (Rets (v3 (Po.app (⟨⟨⟨⟨pa0, pa1⟩, ⟨pa2, pa3⟩, ⟨pa4, pa5⟩⟩, ⟨⟨pa6, pa7⟩, ⟨pa8, pa9⟩, ⟨pa10, pa11⟩⟩, ⟨⟨pa12, pa13⟩, ⟨pa14, pa15⟩, ⟨pa16, pa17⟩⟩⟩, ⟨⟨pa18, pa19⟩, ⟨pa20, pa21⟩, ⟨pa22, pa23⟩⟩⟩ : Po) (⟨⟨va0, va1⟩, ⟨va2, va3⟩, ⟨va4, va5⟩⟩ : V3))) (w)) := by
  refine yQ (n := 9) Tryz.func143 rfl rfl rfl ?_
  refine qJ ?_
  refine qZ ?_
  refine kK 2 rfl rfl rfl rfl ?_; intro b2
  refine kK 3 rfl rfl rfl rfl ?_; intro b3
  refine jZ 4 ze127 rfl rfl rfl ?_; intro b4
  refine qU ?_
  refine qQ ?_
  refine qJ ?_
  refine yX 4 mo (by kernel_rfl) ?_
  simp only [List.take_succ_cons, List.take_zero, List.drop_succ_cons, List.drop_zero]
  refine qG (zQ 2 ty134 rfl rfl rfl) rfl rfl rfl ?_
  refine doG_callNewF en159 rfl (fun w' _ => pMover _ _ _ _ _ _ _ _ _ _ _ _ _ _ _ _ _ _ _ _ _ _ _ _ w') rfl rfl rfl ?_
  refine qG (zQ 3 ty127 rfl rfl rfl) rfl rfl rfl ?_
  refine doG_callFG (F := v3) (first := fun _ => []) (cap := fun b => [.pointer (some ⟨b, 0, none⟩)]) 6 rfl (fun _ => rfl) en169 (fun u => rfl) (fun b w _ hb => pMove _ _ _ _ _ _ _ _ _ _ _ _ _ _ _ _ _ _ _ _ _ _ _ _ _ _ _ _ _ _ _ w hb) (fun u => rfl) (by decide) rfl ?_; intro r8 hr8
  refine jK ?_
  refine tail_ghost ?_; intro u6
  refine yV ?_
  refine zZ 4 ty127 rfl rfl rfl rfl rfl rfl rfl rfl ?_
  refine qU ?_
  refine qQ ?_
  refine yU ?_
  refine zH (rs := [.cell 4 127]) rfl (resC (yY 4 rfl rfl ty127 rfl) (resN)) (congrArg (v3) (?_ : ⟨⟨_, _⟩, ⟨_, _⟩, ⟨_, _⟩⟩ = Po.app (⟨⟨⟨⟨pa0, pa1⟩, ⟨pa2, pa3⟩, ⟨pa4, pa5⟩⟩, ⟨⟨pa6, pa7⟩, ⟨pa8, pa9⟩, ⟨pa10, pa11⟩⟩, ⟨⟨pa12, pa13⟩, ⟨pa14, pa15⟩, ⟨pa16, pa17⟩⟩⟩, ⟨⟨pa18, pa19⟩, ⟨pa20, pa21⟩, ⟨pa22, pa23⟩⟩⟩ : Po) (⟨⟨va0, va1⟩, ⟨va2, va3⟩, ⟨va4, va5⟩⟩ : V3)))
  subst_vars; rfl
end Go.Proofs.YtnlnbnjnapofmaaGreat
namespace Go.Proofs.YtnlnbnjnapofmaaGreat.Od
open Go.Rx Rt Go.Sx Go.RowKit
noncomputable def o_mRound : List PV → Option (Bool × Ret) := fun ps => match ps with
  | [.n .i64 n, .n .i64 k] => some (decide (0 < k ∧ k ≤ 9223372036854775807), .v (.n .i64 (n % k)))
  | _ => none
theorem ok_mRound : OneOk Tryz.prog 16 o_mRound := by
  intro ps r h
  unfold o_mRound at h
  split at h
  · simp only [Option.some.injEq, Prod.mk.injEq] at h
    obtain ⟨hg, rfl⟩ := h
    exact snd_of_rets (yW Tryz.func16 (by kernel_rfl) (by kernel_rfl)) rfl rfl (fun w => mRound _ _ (of_decide_eq_true hg) w)
  · cases h
noncomputable def L1 : OrL := (16, o_mRound) :: ([] : OrL)
theorem L1_ok : AllP (fun x : Nat × (List PV → Option (Bool × Ret)) => OneOk Tryz.prog x.1 x.2) L1 := ⟨ok_mRound, trivial⟩
noncomputable def o_iOf : List PV → Option (Bool × Ret) := fun ps => match ps with
  | [.n .i64 x] => some (true, .v (.a (ivC (Iv.of x))))
  | _ => none
theorem ok_iOf : OneOk Tryz.prog 86 o_iOf := by
  intro ps r h
  unfold o_iOf at h
  split at h
  · simp only [Option.some.injEq, Prod.mk.injEq] at h
    obtain ⟨hg, rfl⟩ := h
    exact snd_of_rets (yW Tryz.func86 (by kernel_rfl) (by kernel_rfl)) rfl rfl (fun w => iOf _ w)
  · cases h
noncomputable def L2 : OrL := (86, o_iOf) :: L1
theorem L2_ok : AllP (fun x : Nat × (List PV → Option (Bool × Ret)) => OneOk Tryz.prog x.1 x.2) L2 := ⟨ok_iOf, L1_ok⟩
noncomputable def o_pApply : List PV → Option (Bool × Ret) := fun ps => match ps with
  | [.a p', .a v'] => (poD p').bind fun p => (v3D v').bind fun v => some (true, .v (.a (v3C (Po.app p v))))
  | _ => none
theorem ok_pApply : OneOk Tryz.prog 143 o_pApply := by
  intro ps r h
  unfold o_pApply at h
  split at h
  · simp only [Option.bind_eq_some_iff, Option.some.injEq, Prod.mk.injEq] at h
    obtain ⟨p, hp, v, hv, hg, rfl⟩ := h
    rw [poD_eq hp]
    rw [v3D_eq hv]
    exact snd_of_rets (yW Tryz.func143 (by kernel_rfl) (by kernel_rfl)) rfl rfl (fun w => pApply _ _ _ _ _ _ _ _ _ _ _ _ _ _ _ _ _ _ _ _ _ _ _ _ _ _ _ _ _ _ w)
  · cases h
noncomputable def L3 : OrL := (143, o_pApply) :: L2
theorem L3_ok : AllP (fun x : Nat × (List PV → Option (Bool × Ret)) => OneOk Tryz.prog x.1 x.2) L3 := ⟨ok_pApply, L2_ok⟩
noncomputable def o_mApply : List PV → Option (Bool × Ret) := fun ps => match ps with
  | [.a m', .a v'] => (m3D m').bind fun m => (v3D v').bind fun v => some (true, .v (.a (v3C (M3.apply m v))))
  | _ => none
theorem ok_mApply : OneOk Tryz.prog 142 o_mApply := by
  intro ps r h
  unfold o_mApply at h
  split at h
  · simp only [Option.bind_eq_some_iff, Option.some.injEq, Prod.mk.injEq] at h
    obtain ⟨m, hm, v, hv, hg, rfl⟩ := h
    rw [m3D_eq hm]
    rw [v3D_eq hv]
    exact snd_of_rets (yW Tryz.func142 (by kernel_rfl) (by kernel_rfl)) rfl rfl (fun w => mApply _ _ _ _ _ _ _ _ _ _ _ _ _ _ _ _ _ _ _ _ _ _ _ _ w)
  · cases h
noncomputable def L4 : OrL := (142, o_mApply) :: L3
theorem L4_ok : AllP (fun x : Nat × (List PV → Option (Bool × Ret)) => OneOk Tryz.prog x.1 x.2) L4 := ⟨ok_mApply, L3_ok⟩
noncomputable def o_mPoint : List PV → Option (Bool × Ret) := fun ps => match ps with
  | [.a z'] => (z3D z').bind fun z => some (true, .v (.a (v3C (V3.of z))))
  | _ => none
theorem ok_mPoint : OneOk Tryz.prog 75 o_mPoint := by
  intro ps r h
  unfold o_mPoint at h
  split at h
  · simp only [Option.bind_eq_some_iff, Option.some.injEq, Prod.mk.injEq] at h
    obtain ⟨z, hz, hg, rfl⟩ := h
    rw [z3D_eq hz]
    exact snd_of_rets (yW Tryz.func75 (by kernel_rfl) (by kernel_rfl)) rfl rfl (fun w => mPoint _ _ _ w)
  · cases h
noncomputable def L5 : OrL := (75, o_mPoint) :: L4
theorem L5_ok : AllP (fun x : Nat × (List PV → Option (Bool × Ret)) => OneOk Tryz.prog x.1 x.2) L5 := ⟨ok_mPoint, L4_ok⟩
set_option maxRecDepth 100000 in
theorem tr_sDot (nx : Int) (ny : Int) (nz : Int) (v0 : Int) (v1 : Int) (v2 : Int) (v3 : Int) (v4 : Int) (v5 : Int) : runK T (OrL.k L5) 60 76 [.a [.n .i64 nx, .n .i64 ny, .n .i64 nz], .a [.n .i64 v0, .n .i64 v1, .n .i64 v2, .n .i64 v3, .n .i64 v4, .n .i64 v5]] =
  bif (decide (nx < (-16384))) then some (.v (.t [.n .i64 0, .n .i64 0]), [])
  else bif (decide (16384 < nx)) then some (.v (.t [.n .i64 0, .n .i64 0]), [])
  else bif (decide (ny < (-16384))) then some (.v (.t [.n .i64 0, .n .i64 0]), [])
  else bif (decide (16384 < ny)) then some (.v (.t [.n .i64 0, .n .i64 0]), [])
  else bif (decide (nz < (-16384))) then some (.v (.t [.n .i64 0, .n .i64 0]), [])
  else bif (decide (16384 < nz)) then some (.v (.t [.n .i64 0, .n .i64 0]), [])
  else bif (!((decide (nx = 0)) && ((decide (ny = 0)) && ((decide (nz = 0)) && true)))) then (bif (decide (v0 < (-268435456))) then some (.v (.t [.n .i64 0, .n .i64 0]), [])
    else bif (decide (v1 < v0)) then some (.v (.t [.n .i64 0, .n .i64 0]), [])
    else bif (decide (268435456 < v1)) then some (.v (.t [.n .i64 0, .n .i64 0]), [])
    else bif (decide (v2 < (-268435456))) then some (.v (.t [.n .i64 0, .n .i64 0]), [])
    else bif (decide (v3 < v2)) then some (.v (.t [.n .i64 0, .n .i64 0]), [])
    else bif (decide (268435456 < v3)) then some (.v (.t [.n .i64 0, .n .i64 0]), [])
    else bif (decide (v4 < (-268435456))) then some (.v (.t [.n .i64 0, .n .i64 0]), [])
    else bif (decide (v5 < v4)) then some (.v (.t [.n .i64 0, .n .i64 0]), [])
    else bif (decide (268435456 < v5)) then some (.v (.t [.n .i64 0, .n .i64 0]), [])
    else some (.v (.t [.n .i64 (IntKind.i64.wrap ((IntKind.i64.wrap ((IntKind.i64.wrap (0 + (min (IntKind.i64.wrap (nx * v0)) (IntKind.i64.wrap (nx * v1))))) + (min (IntKind.i64.wrap (ny * v2)) (IntKind.i64.wrap (ny * v3))))) + (min (IntKind.i64.wrap (nz * v4)) (IntKind.i64.wrap (nz * v5))))), .n .i64 (IntKind.i64.wrap ((IntKind.i64.wrap ((IntKind.i64.wrap (0 + (max (IntKind.i64.wrap (nx * v0)) (IntKind.i64.wrap (nx * v1))))) + (max (IntKind.i64.wrap (ny * v2)) (IntKind.i64.wrap (ny * v3))))) + (max (IntKind.i64.wrap (nz * v4)) (IntKind.i64.wrap (nz * v5)))))]), []))
  else some (.v (.t [.n .i64 0, .n .i64 0]), []) := by kernel_rfl
noncomputable def dot (nx ny nz v0 v1 v2 v3 v4 v5 : Int) : Int × Int := (bif (decide (nx < (-16384))) then (0, 0) else (bif (decide (16384 < nx)) then (0, 0) else (bif (decide (ny < (-16384))) then (0, 0) else (bif (decide (16384 < ny)) then (0, 0) else (bif (decide (nz < (-16384))) then (0, 0) else (bif (decide (16384 < nz)) then (0, 0) else (bif (!((decide (nx = 0)) && ((decide (ny = 0)) && ((decide (nz = 0)) && true)))) then (bif (decide (v0 < (-268435456))) then (0, 0) else (bif (decide (v1 < v0)) then (0, 0) else (bif (decide (268435456 < v1)) then (0, 0) else (bif (decide (v2 < (-268435456))) then (0, 0) else (bif (decide (v3 < v2)) then (0, 0) else (bif (decide (268435456 < v3)) then (0, 0) else (bif (decide (v4 < (-268435456))) then (0, 0) else (bif (decide (v5 < v4)) then (0, 0) else (bif (decide (268435456 < v5)) then (0, 0) else ((IntKind.i64.wrap ((IntKind.i64.wrap ((IntKind.i64.wrap (0 + (min (IntKind.i64.wrap (nx * v0)) (IntKind.i64.wrap (nx * v1))))) + (min (IntKind.i64.wrap (ny * v2)) (IntKind.i64.wrap (ny * v3))))) + (min (IntKind.i64.wrap (nz * v4)) (IntKind.i64.wrap (nz * v5))))), (IntKind.i64.wrap ((IntKind.i64.wrap ((IntKind.i64.wrap (0 + (max (IntKind.i64.wrap (nx * v0)) (IntKind.i64.wrap (nx * v1))))) + (max (IntKind.i64.wrap (ny * v2)) (IntKind.i64.wrap (ny * v3))))) + (max (IntKind.i64.wrap (nz * v4)) (IntKind.i64.wrap (nz * v5))))))))))))))) else (0, 0))))))))
def F_sDot : Int × Int → Option (Ret × Mem) := fun v => some (.v (.t [.n .i64 v.1, .n .i64 v.2]), [])
theorem sp_sDot (nx ny nz v0 v1 v2 v3 v4 v5 : Int) : runK T (OrL.k L5) 60 76 [.a [.n .i64 nx, .n .i64 ny, .n .i64 nz], .a [.n .i64 v0, .n .i64 v1, .n .i64 v2, .n .i64 v3, .n .i64 v4, .n .i64 v5]] = some (.v (.t [.n .i64 (dot nx ny nz v0 v1 v2 v3 v4 v5).1, .n .i64 (dot nx ny nz v0 v1 v2 v3 v4 v5).2]), []) := by
  rw [tr_sDot]
  exact ((bif_val (F := F_sDot) rfl (bif_val (F := F_sDot) rfl (bif_val (F := F_sDot) rfl (bif_val (F := F_sDot) rfl (bif_val (F := F_sDot) rfl (bif_val (F := F_sDot) rfl (bif_val (F := F_sDot) (bif_val (F := F_sDot) rfl (bif_val (F := F_sDot) rfl (bif_val (F := F_sDot) rfl (bif_val (F := F_sDot) rfl (bif_val (F := F_sDot) rfl (bif_val (F := F_sDot) rfl (bif_val (F := F_sDot) rfl (bif_val (F := F_sDot) rfl (bif_val (F := F_sDot) rfl rfl))))))))) rfl))))))) : _ = F_sDot (dot nx ny nz v0 v1 v2 v3 v4 v5))
noncomputable def o_sDot : List PV → Option (Bool × Ret) := fun ps => match ps with
  | [.a z', .a v'] => (z3D z').bind fun z => (v3D v').bind fun v => some (true, .v (.t [.n .i64 (dot z.x z.y z.z v.x.lo v.x.hi v.y.lo v.y.hi v.z.lo v.z.hi).1, .n .i64 (dot z.x z.y z.z v.x.lo v.x.hi v.y.lo v.y.hi v.z.lo v.z.hi).2]))
  | _ => none
theorem ok_sDot : OneOk Tryz.prog 76 o_sDot := by
  intro ps r h
  unfold o_sDot at h
  split at h
  · simp only [Option.bind_eq_some_iff, Option.some.injEq, Prod.mk.injEq] at h
    obtain ⟨z, hz, v, hv, hg, rfl⟩ := h
    rw [z3D_eq hz]
    rw [v3D_eq hv]
    exact jX tabOk mixed (OrL.ok L5_ok) (sp_sDot _ _ _ _ _ _ _ _ _)
  · cases h
noncomputable def L6 : OrL := (76, o_sDot) :: L5
theorem L6_ok : AllP (fun x : Nat × (List PV → Option (Bool × Ret)) => OneOk Tryz.prog x.1 x.2) L6 := ⟨ok_sDot, L5_ok⟩
end Go.Proofs.YtnlnbnjnapofmaaGreat.Od
namespace Go.Rx
open Go.RowKit Go.Sx
theorem own_mem {D : Nat → Prop} {G : World → Prop} {e sz cap k : Nat} {a : Option Addr} {ys : List Value} {w : World} (hd : Depends D G) (hG : G w) (hi : ∀ w, G w → OwnF 0 e sz a cap k ys w) : ∀ ad, a = some ad → D ad.block := by
  rintro ad rfl
  apply Classical.byContradiction
  intro hn
  obtain ⟨_, h1⟩ := hi w hG
  rcases h1 with ⟨h1, _⟩ | ⟨g, cp, cur, hv, _, hb, _, _, hs, _⟩
  · cases h1
  · simp only [Value.slice.injEq, Option.some.injEq] at hv
    obtain ⟨rfl, _, rfl⟩ := hv
    have hlt : g < w.heap.size := kW hb
    have hG' : G { w with heap := w.heap.setIfInBounds g (.cells (cur.push (.bool true)) e (0, 0)) } := hd w _ (fun k hk => by
      have e : g ≠ k := fun e => hn (e ▸ hk)
      show (w.heap.setIfInBounds g _)[k]? = _
      exact Array.getElem?_setIfInBounds_ne e) hG
    obtain ⟨_, h2⟩ := hi _ hG'
    rcases h2 with ⟨h2, _⟩ | ⟨g', cp', cur', hv', _, hb', _, _, hs', _⟩
    · cases h2
    · simp only [Value.slice.injEq, Option.some.injEq, Addr.mk.injEq] at hv'
      obtain ⟨⟨rfl, _⟩, _, rfl⟩ := hv'
      have hb2 : (w.heap.setIfInBounds g (.cells (cur.push (.bool true)) e (0, 0)))[g]? = some (.cells cur' e (0, 0)) := hb'
      rw [Array.getElem?_setIfInBounds_self_of_lt hlt] at hb2
      simp only [Option.some.injEq, Obj.cells.injEq] at hb2
      rw [← hb2.1, Array.size_push, hs] at hs'
      omega
theorem al_flat {F : Nat → Prop} {w : World} {sz : Nat} {rows : List (List PV)} (hs : flatRows sz rows = true) : Al (Al (RP F w)) rows (valRows rows) ∧ (∀ v ∈ valRows rows, ∀ u ∈ v, u.oneCell' = true) := by
  unfold valRows
  refine ⟨⟨by simp, fun i r v hr hv => ?_⟩, fun v hv u hu => ?_⟩
  · rw [List.getElem?_map, hr] at hv
    cases hv
    refine ⟨by simp, fun j p u hp hu => ?_⟩
    rw [List.getElem?_map, hp] at hu
    cases hu
    exact (val1_rp ((flatRows_at hs (List.mem_of_getElem? hr)).2 p (List.mem_of_getElem? hp))).1
  · obtain ⟨r, hr, rfl⟩ := List.mem_map.1 hv
    obtain ⟨p, hp, rfl⟩ := List.mem_map.1 hu
    exact (val1_rp (F := F) (w := w) ((flatRows_at hs hr).2 p hp)).2
theorem snd_toldOw {P : Program} {f : Nat} {ps : List PV} {e sz : Nat} {rows : List (List PV)} {Φ : Option Addr × Nat → Prop} (hent : Enters P f) (hs : flatRows sz rows = true) (h0 : 0 < sz)
    (h : ∀ (w : World) (F : Nat → Prop) (vals : List Value), (∀ k, F k → k < w.heap.size) → Al (RP F w) ps vals → Calls P f vals.toArray w (RetsF Φ (fun x => .slice x.1 rows.length x.2) (fun x => OwnF 0 e sz x.1 x.2 rows.length (valRows rows).flatten) w)) : SndA1 P f ps (.ow e sz rows) := by
  refine ⟨hent, fun w F vals hF hal => (h w F vals hF hal).mono ?_⟩
  rintro en w' ⟨x, hx, rfl, hg, D, h1, h2, h3⟩
  have hal := al_flat (F := F) (w := w') hs
  refine ⟨_, F, rfl, hg, fun k hk => hk, fun k hk => .inl hk, x.1, x.2, valRows rows, rfl, h0, hal.1, fun r hr => (flatRows_at hs hr).1, hal.2, h3, fun b hb => ?_⟩
  obtain ⟨ad, ha, rfl⟩ := Option.map_eq_some_iff.1 hb
  have hD := h2 _ (own_mem h1 h3 (fun _ h => h) ad ha)
  exact ⟨fun hk => by have := hF _ hk; omega, hD.1, hD.2⟩
end Go.Rx

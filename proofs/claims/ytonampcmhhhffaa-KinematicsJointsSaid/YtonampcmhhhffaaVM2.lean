/- What the compositions of matrices compute. No condition. -/
import Derived.Test.YtonampcmhhhffaaProg
import Derived.Test.YtonampcmhhhffaaVMat
import Derived.Test.YtonampcmhhhffaaVA1
import Derived.Test.YtonampcmhhhffaaVA2
import Derived.Test.YtonampcmhhhffaaVM1
namespace Go.Proofs.Ytonampcmhhhffaa
open Go.Sx
theorem en89 : Enters Try.prog 89 := enters_of Try.func89 (by kernel_rfl) (by kernel_rfl)

set_option maxRecDepth 100000 in
theorem mCompose (p0 p1 p2 p3 p4 p5 p6 p7 p8 p9 p10 p11 p12 p13 p14 p15 p16 p17 : Int) (q0 q1 q2 q3 q4 q5 q6 q7 q8 q9 q10 q11 q12 q13 q14 q15 q16 q17 : Int) (w : World) : Calls Try.prog 34 [.agg #[.int .i64 p0, .int .i64 p1, .int .i64 p2, .int .i64 p3, .int .i64 p4, .int .i64 p5, .int .i64 p6, .int .i64 p7, .int .i64 p8, .int .i64 p9, .int .i64 p10, .int .i64 p11, .int .i64 p12, .int .i64 p13, .int .i64 p14, .int .i64 p15, .int .i64 p16, .int .i64 p17], .agg #[.int .i64 q0, .int .i64 q1, .int .i64 q2, .int .i64 q3, .int .i64 q4, .int .i64 q5, .int .i64 q6, .int .i64 q7, .int .i64 q8, .int .i64 q9, .int .i64 q10, .int .i64 q11, .int .i64 q12, .int .i64 q13, .int .i64 q14, .int .i64 q15, .int .i64 q16, .int .i64 q17]].toArray w (Rets (m3 (M3.mul (⟨⟨⟨p0, p1⟩, ⟨p2, p3⟩, ⟨p4, p5⟩⟩, ⟨⟨p6, p7⟩, ⟨p8, p9⟩, ⟨p10, p11⟩⟩, ⟨⟨p12, p13⟩, ⟨p14, p15⟩, ⟨p16, p17⟩⟩⟩ : M3) (⟨⟨⟨q0, q1⟩, ⟨q2, q3⟩, ⟨q4, q5⟩⟩, ⟨⟨q6, q7⟩, ⟨q8, q9⟩, ⟨q10, q11⟩⟩, ⟨⟨q12, q13⟩, ⟨q14, q15⟩, ⟨q16, q17⟩⟩⟩ : M3))) (w)) := by
  refine calls_of_doC (n := 47) Try.func34 rfl rfl rfl ?_
  refine doC_seq ?_
  refine doC_region ?_
  refine doL_box 2 rfl rfl rfl rfl ?_; intro b2
  refine doL_box 3 rfl rfl rfl rfl ?_; intro b3
  refine doL_alloc 4 ze28 rfl rfl rfl ?_; intro b4
  refine doL_nil ?_
  refine post_then ?_
  refine doC_seq ?_
  refine doC_region ?_
  refine doL_alloc 5 ze28 rfl rfl rfl ?_; intro b5
  refine doL_nil ?_
  refine post_then ?_
  refine doC_seq ?_
  refine doC_seq ?_
  refine doC_region ?_
  refine doL_v (opV_move rfl) rfl rfl rfl ?_
  refine doL_nil ?_
  refine post_then ?_
  refine doC_block ?_
  refine doC_rounds 4 ?_
  refine doR_succ ?_
  refine doC_seq ?_
  refine doC_region ?_
  refine doL_v (opV_lss rfl rfl) rfl rfl rfl ?_
  refine doL_nil ?_
  refine post_then ?_
  refine doC_seq ?_
  refine doC_cond_t rfl (by decide) ?_
  refine doC_skip ?_
  refine post_then ?_
  refine doC_seq ?_
  refine doC_block ?_
  refine doC_seq ?_
  refine doC_region ?_
  refine doL_v (opV_move rfl) rfl rfl rfl ?_
  refine doL_v (opV_assign rfl) rfl rfl rfl ?_
  refine doL_nil ?_
  refine post_then ?_
  refine doC_seq ?_
  refine doC_region ?_
  refine doL_v (opV_move rfl) rfl rfl rfl ?_
  refine doL_nil ?_
  refine post_then ?_
  refine doC_block ?_
  refine doC_rounds 4 ?_
  refine doR_succ ?_
  refine doC_seq ?_
  refine doC_region ?_
  refine doL_v (opV_lss rfl rfl) rfl rfl rfl ?_
  refine doL_nil ?_
  refine post_then ?_
  refine doC_seq ?_
  refine doC_cond_t rfl (by decide) ?_
  refine doC_skip ?_
  refine post_then ?_
  refine doC_seq ?_
  refine doC_block ?_
  refine doC_seq ?_
  refine doC_region ?_
  refine doL_v (opV_move rfl) rfl rfl rfl ?_
  refine doL_v (opV_assign rfl) rfl rfl rfl ?_
  refine doL_nil ?_
  refine post_then ?_
  refine doC_seq ?_
  refine doC_keepH (ks := [2, 3, 4, 5]) rfl ?_
  refine doC_region ?_
  refine doL_alloc 8 ze23 rfl rfl rfl ?_; intro b8
  refine doL_nil ?_
  refine post_then ?_
  refine doC_seq ?_
  refine doC_seq ?_
  refine doC_region ?_
  refine doL_v (opV_move rfl) rfl rfl rfl ?_
  refine doL_nil ?_
  refine post_then ?_
  refine doC_block ?_
  refine doC_rounds 4 ?_
  refine doR_succ ?_
  refine doC_seq ?_
  refine doC_region ?_
  refine doL_v (opV_lss rfl rfl) rfl rfl rfl ?_
  refine doL_nil ?_
  refine post_then ?_
  refine doC_seq ?_
  refine doC_cond_t rfl (by decide) ?_
  refine doC_skip ?_
  refine post_then ?_
  refine doC_seq ?_
  refine doC_block ?_
  refine doC_seq ?_
  refine doC_region ?_
  refine doL_v (opV_move rfl) rfl rfl rfl ?_
  refine doL_v (opV_assign rfl) rfl rfl rfl ?_
  refine doL_nil ?_
  refine post_then ?_
  refine doC_keep (ks := [2, 3, 4, 5, 6, 7, 8, 9, 10, 13, 16]) rfl ?_
  refine doC_drawn 13 mo (by kernel_rfl) ?_
  simp only [List.take_succ_cons, List.take_zero, List.drop_succ_cons, List.drop_zero]
  refine doG_v (opV_loadA 8 ty23 rfl rfl rfl) rfl rfl rfl ?_
  refine doG_v (opV_move rfl) rfl rfl rfl ?_
  refine doG_v (opV_move rfl) rfl rfl rfl ?_
  refine doG_v (opV_indexAddr ar28 rfl rfl (by first | decide | omega) (by first | decide | omega)) rfl rfl rfl ?_
  refine doG_v (opV_indexAddr ar26 rfl rfl (by first | decide | omega) (by first | decide | omega)) rfl rfl rfl ?_
  refine doG_v (opV_loadA 2 ty23 rfl rfl rfl) rfl rfl rfl ?_
  refine doG_v (opV_move rfl) rfl rfl rfl ?_
  refine doG_v (opV_move rfl) rfl rfl rfl ?_
  refine doG_v (opV_indexAddr ar28 rfl rfl (by first | decide | omega) (by first | decide | omega)) rfl rfl rfl ?_
  refine doG_v (opV_indexAddr ar26 rfl rfl (by first | decide | omega) (by first | decide | omega)) rfl rfl rfl ?_
  refine doG_v (opV_loadA 3 ty23 rfl rfl rfl) rfl rfl rfl ?_
  refine doG_vg (F := iv) (opV_call en85 rfl (fun w _ => iMul _ _ _ _  w)) rfl rfl rfl ?_; intro r30 hr30
  refine doG_vg (F := iv) (opV_call en84 rfl (fun w _ => iAdd _ _ _ _  w)) rfl rfl rfl ?_; intro r31 hr31
  refine doG_nil ?_
  refine tail_nil ?_
  refine doL_store 8 ty23 rfl rfl rfl rfl rfl rfl rfl rfl ?_
  refine doL_nil ?_
  refine post_block_normal ?_
  refine post_then ?_
  refine doC_region ?_
  refine doL_v (opV_add rfl rfl (by first | exact i64_in ⟨by omega, by omega⟩ | rfl)) rfl rfl rfl ?_
  refine doL_v (opV_move rfl) rfl rfl rfl ?_
  refine doL_nil ?_
  refine post_rounds ?_
  refine doR_succ ?_
  refine doC_seq ?_
  refine doC_region ?_
  refine doL_v (opV_lss rfl rfl) rfl rfl rfl ?_
  refine doL_nil ?_
  refine post_then ?_
  refine doC_seq ?_
  refine doC_cond_t rfl (by decide) ?_
  refine doC_skip ?_
  refine post_then ?_
  refine doC_seq ?_
  refine doC_block ?_
  refine doC_seq ?_
  refine doC_region ?_
  refine doL_v (opV_move rfl) rfl rfl rfl ?_
  refine doL_v (opV_assign rfl) rfl rfl rfl ?_
  refine doL_nil ?_
  refine post_then ?_
  refine doC_keep (ks := [2, 3, 4, 5, 6, 7, 8, 9, 10, 13, 16]) rfl ?_
  refine doC_drawn 13 mo (by kernel_rfl) ?_
  simp only [List.take_succ_cons, List.take_zero, List.drop_succ_cons, List.drop_zero]
  refine doG_v (opV_loadA 8 ty23 rfl rfl rfl) rfl rfl rfl ?_
  refine doG_v (opV_move rfl) rfl rfl rfl ?_
  refine doG_v (opV_move rfl) rfl rfl rfl ?_
  refine doG_v (opV_indexAddr ar28 rfl rfl (by first | decide | omega) (by first | decide | omega)) rfl rfl rfl ?_
  refine doG_v (opV_indexAddr ar26 rfl rfl (by first | decide | omega) (by first | decide | omega)) rfl rfl rfl ?_
  refine doG_v (opV_loadA 2 ty23 rfl rfl rfl) rfl rfl rfl ?_
  refine doG_v (opV_move rfl) rfl rfl rfl ?_
  refine doG_v (opV_move rfl) rfl rfl rfl ?_
  refine doG_v (opV_indexAddr ar28 rfl rfl (by first | decide | omega) (by first | decide | omega)) rfl rfl rfl ?_
  refine doG_v (opV_indexAddr ar26 rfl rfl (by first | decide | omega) (by first | decide | omega)) rfl rfl rfl ?_
  refine doG_v (opV_loadA 3 ty23 rfl rfl rfl) rfl rfl rfl ?_
  refine doG_vg (F := iv) (opV_call en85 rfl (fun w _ => iMul _ _ _ _  w)) rfl rfl rfl ?_; intro r30_2 hr30_2
  refine doG_vg (F := iv) (opV_call en84 rfl (fun w _ => iAdd _ _ _ _  w)) rfl rfl rfl ?_; intro r31_2 hr31_2
  refine doG_nil ?_
  refine tail_nil ?_
  refine doL_store 8 ty23 rfl rfl rfl rfl rfl rfl rfl rfl ?_
  refine doL_nil ?_
  refine post_block_normal ?_
  refine post_then ?_
  refine doC_region ?_
  refine doL_v (opV_add rfl rfl (by first | exact i64_in ⟨by omega, by omega⟩ | rfl)) rfl rfl rfl ?_
  refine doL_v (opV_move rfl) rfl rfl rfl ?_
  refine doL_nil ?_
  refine post_rounds ?_
  refine doR_succ ?_
  refine doC_seq ?_
  refine doC_region ?_
  refine doL_v (opV_lss rfl rfl) rfl rfl rfl ?_
  refine doL_nil ?_
  refine post_then ?_
  refine doC_seq ?_
  refine doC_cond_t rfl (by decide) ?_
  refine doC_skip ?_
  refine post_then ?_
  refine doC_seq ?_
  refine doC_block ?_
  refine doC_seq ?_
  refine doC_region ?_
  refine doL_v (opV_move rfl) rfl rfl rfl ?_
  refine doL_v (opV_assign rfl) rfl rfl rfl ?_
  refine doL_nil ?_
  refine post_then ?_
  refine doC_keep (ks := [2, 3, 4, 5, 6, 7, 8, 9, 10, 13, 16]) rfl ?_
  refine doC_drawn 13 mo (by kernel_rfl) ?_
  simp only [List.take_succ_cons, List.take_zero, List.drop_succ_cons, List.drop_zero]
  refine doG_v (opV_loadA 8 ty23 rfl rfl rfl) rfl rfl rfl ?_
  refine doG_v (opV_move rfl) rfl rfl rfl ?_
  refine doG_v (opV_move rfl) rfl rfl rfl ?_
  refine doG_v (opV_indexAddr ar28 rfl rfl (by first | decide | omega) (by first | decide | omega)) rfl rfl rfl ?_
  refine doG_v (opV_indexAddr ar26 rfl rfl (by first | decide | omega) (by first | decide | omega)) rfl rfl rfl ?_
  refine doG_v (opV_loadA 2 ty23 rfl rfl rfl) rfl rfl rfl ?_
  refine doG_v (opV_move rfl) rfl rfl rfl ?_
  refine doG_v (opV_move rfl) rfl rfl rfl ?_
  refine doG_v (opV_indexAddr ar28 rfl rfl (by first | decide | omega) (by first | decide | omega)) rfl rfl rfl ?_
  refine doG_v (opV_indexAddr ar26 rfl rfl (by first | decide | omega) (by first | decide | omega)) rfl rfl rfl ?_
  refine doG_v (opV_loadA 3 ty23 rfl rfl rfl) rfl rfl rfl ?_
  refine doG_vg (F := iv) (opV_call en85 rfl (fun w _ => iMul _ _ _ _  w)) rfl rfl rfl ?_; intro r30_3 hr30_3
  refine doG_vg (F := iv) (opV_call en84 rfl (fun w _ => iAdd _ _ _ _  w)) rfl rfl rfl ?_; intro r31_3 hr31_3
  refine doG_nil ?_
  refine tail_nil ?_
  refine doL_store 8 ty23 rfl rfl rfl rfl rfl rfl rfl rfl ?_
  refine doL_nil ?_
  refine post_block_normal ?_
  refine post_then ?_
  refine doC_region ?_
  refine doL_v (opV_add rfl rfl (by first | exact i64_in ⟨by omega, by omega⟩ | rfl)) rfl rfl rfl ?_
  refine doL_v (opV_move rfl) rfl rfl rfl ?_
  refine doL_nil ?_
  refine post_rounds ?_
  refine doR_succ ?_
  refine doC_seq ?_
  refine doC_region ?_
  refine doL_v (opV_lss rfl rfl) rfl rfl rfl ?_
  refine doL_nil ?_
  refine post_then ?_
  refine doC_seq ?_
  refine doC_cond_f rfl (by decide) ?_
  refine doC_exit ?_
  refine post_then_exit ?_
  refine post_then_exit ?_
  refine post_block_exit ?_
  refine post_then ?_
  refine doC_keep (ks := [2, 3, 4, 5, 6, 7, 8, 9, 10, 13, 16]) rfl ?_
  refine doC_drawn 11 mo (by kernel_rfl) ?_
  simp only [List.take_succ_cons, List.take_zero, List.drop_succ_cons, List.drop_zero]
  refine doG_v (opV_move rfl) rfl rfl rfl ?_
  refine doG_v (opV_move rfl) rfl rfl rfl ?_
  refine doG_v (opV_fieldAddr fa23_0 rfl) rfl rfl rfl ?_
  refine doG_v (opV_load1 8 ty2 rfl rfl rfl) rfl rfl rfl ?_
  refine doG_vg (F := vI) (opV_call en89 rfl (fun w _ => mLimited _  w)) rfl rfl rfl ?_; intro r37 hr37
  refine doG_v (opV_fieldAddr fa23_1 rfl) rfl rfl rfl ?_
  refine doG_v (opV_load1 8 ty2 rfl rfl rfl) rfl rfl rfl ?_
  refine doG_vg (F := vI) (opV_call en89 rfl (fun w _ => mLimited _  w)) rfl rfl rfl ?_; intro r40 hr40
  refine doG_v (opV_build la23 rfl rfl) rfl rfl rfl ?_
  refine doG_v (opV_indexAddr ar28 rfl rfl (by first | decide | omega) (by first | decide | omega)) rfl rfl rfl ?_
  refine doG_v (opV_indexAddr ar26 rfl rfl (by first | decide | omega) (by first | decide | omega)) rfl rfl rfl ?_
  refine doG_nil ?_
  refine tail_nil ?_
  refine doL_store 5 ty23 rfl rfl rfl rfl rfl rfl rfl rfl ?_
  refine doL_nil ?_
  refine post_block_normal ?_
  refine post_then ?_
  refine doC_region ?_
  refine doL_v (opV_add rfl rfl (by first | exact i64_in ⟨by omega, by omega⟩ | rfl)) rfl rfl rfl ?_
  refine doL_v (opV_move rfl) rfl rfl rfl ?_
  refine doL_nil ?_
  refine post_rounds ?_
  refine doR_succ ?_
  refine doC_seq ?_
  refine doC_region ?_
  refine doL_v (opV_lss rfl rfl) rfl rfl rfl ?_
  refine doL_nil ?_
  refine post_then ?_
  refine doC_seq ?_
  refine doC_cond_t rfl (by decide) ?_
  refine doC_skip ?_
  refine post_then ?_
  refine doC_seq ?_
  refine doC_block ?_
  refine doC_seq ?_
  refine doC_region ?_
  refine doL_v (opV_move rfl) rfl rfl rfl ?_
  refine doL_v (opV_assign rfl) rfl rfl rfl ?_
  refine doL_nil ?_
  refine post_then ?_
  refine doC_seq ?_
  refine doC_keepH (ks := [2, 3, 4, 5]) rfl ?_
  refine doC_region ?_
  refine doL_alloc 8 ze23 rfl rfl rfl ?_; intro b8_2
  refine doL_nil ?_
  refine post_then ?_
  refine doC_seq ?_
  refine doC_seq ?_
  refine doC_region ?_
  refine doL_v (opV_move rfl) rfl rfl rfl ?_
  refine doL_nil ?_
  refine post_then ?_
  refine doC_block ?_
  refine doC_rounds 4 ?_
  refine doR_succ ?_
  refine doC_seq ?_
  refine doC_region ?_
  refine doL_v (opV_lss rfl rfl) rfl rfl rfl ?_
  refine doL_nil ?_
  refine post_then ?_
  refine doC_seq ?_
  refine doC_cond_t rfl (by decide) ?_
  refine doC_skip ?_
  refine post_then ?_
  refine doC_seq ?_
  refine doC_block ?_
  refine doC_seq ?_
  refine doC_region ?_
  refine doL_v (opV_move rfl) rfl rfl rfl ?_
  refine doL_v (opV_assign rfl) rfl rfl rfl ?_
  refine doL_nil ?_
  refine post_then ?_
  refine doC_keep (ks := [2, 3, 4, 5, 6, 7, 8, 9, 10, 13, 16]) rfl ?_
  refine doC_drawn 13 mo (by kernel_rfl) ?_
  simp only [List.take_succ_cons, List.take_zero, List.drop_succ_cons, List.drop_zero]
  refine doG_v (opV_loadA 8 ty23 rfl rfl rfl) rfl rfl rfl ?_
  refine doG_v (opV_move rfl) rfl rfl rfl ?_
  refine doG_v (opV_move rfl) rfl rfl rfl ?_
  refine doG_v (opV_indexAddr ar28 rfl rfl (by first | decide | omega) (by first | decide | omega)) rfl rfl rfl ?_
  refine doG_v (opV_indexAddr ar26 rfl rfl (by first | decide | omega) (by first | decide | omega)) rfl rfl rfl ?_
  refine doG_v (opV_loadA 2 ty23 rfl rfl rfl) rfl rfl rfl ?_
  refine doG_v (opV_move rfl) rfl rfl rfl ?_
  refine doG_v (opV_move rfl) rfl rfl rfl ?_
  refine doG_v (opV_indexAddr ar28 rfl rfl (by first | decide | omega) (by first | decide | omega)) rfl rfl rfl ?_
  refine doG_v (opV_indexAddr ar26 rfl rfl (by first | decide | omega) (by first | decide | omega)) rfl rfl rfl ?_
  refine doG_v (opV_loadA 3 ty23 rfl rfl rfl) rfl rfl rfl ?_
  refine doG_vg (F := iv) (opV_call en85 rfl (fun w _ => iMul _ _ _ _  w)) rfl rfl rfl ?_; intro r30_4 hr30_4
  refine doG_vg (F := iv) (opV_call en84 rfl (fun w _ => iAdd _ _ _ _  w)) rfl rfl rfl ?_; intro r31_4 hr31_4
  refine doG_nil ?_
  refine tail_nil ?_
  refine doL_store 8 ty23 rfl rfl rfl rfl rfl rfl rfl rfl ?_
  refine doL_nil ?_
  refine post_block_normal ?_
  refine post_then ?_
  refine doC_region ?_
  refine doL_v (opV_add rfl rfl (by first | exact i64_in ⟨by omega, by omega⟩ | rfl)) rfl rfl rfl ?_
  refine doL_v (opV_move rfl) rfl rfl rfl ?_
  refine doL_nil ?_
  refine post_rounds ?_
  refine doR_succ ?_
  refine doC_seq ?_
  refine doC_region ?_
  refine doL_v (opV_lss rfl rfl) rfl rfl rfl ?_
  refine doL_nil ?_
  refine post_then ?_
  refine doC_seq ?_
  refine doC_cond_t rfl (by decide) ?_
  refine doC_skip ?_
  refine post_then ?_
  refine doC_seq ?_
  refine doC_block ?_
  refine doC_seq ?_
  refine doC_region ?_
  refine doL_v (opV_move rfl) rfl rfl rfl ?_
  refine doL_v (opV_assign rfl) rfl rfl rfl ?_
  refine doL_nil ?_
  refine post_then ?_
  refine doC_keep (ks := [2, 3, 4, 5, 6, 7, 8, 9, 10, 13, 16]) rfl ?_
  refine doC_drawn 13 mo (by kernel_rfl) ?_
  simp only [List.take_succ_cons, List.take_zero, List.drop_succ_cons, List.drop_zero]
  refine doG_v (opV_loadA 8 ty23 rfl rfl rfl) rfl rfl rfl ?_
  refine doG_v (opV_move rfl) rfl rfl rfl ?_
  refine doG_v (opV_move rfl) rfl rfl rfl ?_
  refine doG_v (opV_indexAddr ar28 rfl rfl (by first | decide | omega) (by first | decide | omega)) rfl rfl rfl ?_
  refine doG_v (opV_indexAddr ar26 rfl rfl (by first | decide | omega) (by first | decide | omega)) rfl rfl rfl ?_
  refine doG_v (opV_loadA 2 ty23 rfl rfl rfl) rfl rfl rfl ?_
  refine doG_v (opV_move rfl) rfl rfl rfl ?_
  refine doG_v (opV_move rfl) rfl rfl rfl ?_
  refine doG_v (opV_indexAddr ar28 rfl rfl (by first | decide | omega) (by first | decide | omega)) rfl rfl rfl ?_
  refine doG_v (opV_indexAddr ar26 rfl rfl (by first | decide | omega) (by first | decide | omega)) rfl rfl rfl ?_
  refine doG_v (opV_loadA 3 ty23 rfl rfl rfl) rfl rfl rfl ?_
  refine doG_vg (F := iv) (opV_call en85 rfl (fun w _ => iMul _ _ _ _  w)) rfl rfl rfl ?_; intro r30_5 hr30_5
  refine doG_vg (F := iv) (opV_call en84 rfl (fun w _ => iAdd _ _ _ _  w)) rfl rfl rfl ?_; intro r31_5 hr31_5
  refine doG_nil ?_
  refine tail_nil ?_
  refine doL_store 8 ty23 rfl rfl rfl rfl rfl rfl rfl rfl ?_
  refine doL_nil ?_
  refine post_block_normal ?_
  refine post_then ?_
  refine doC_region ?_
  refine doL_v (opV_add rfl rfl (by first | exact i64_in ⟨by omega, by omega⟩ | rfl)) rfl rfl rfl ?_
  refine doL_v (opV_move rfl) rfl rfl rfl ?_
  refine doL_nil ?_
  refine post_rounds ?_
  refine doR_succ ?_
  refine doC_seq ?_
  refine doC_region ?_
  refine doL_v (opV_lss rfl rfl) rfl rfl rfl ?_
  refine doL_nil ?_
  refine post_then ?_
  refine doC_seq ?_
  refine doC_cond_t rfl (by decide) ?_
  refine doC_skip ?_
  refine post_then ?_
  refine doC_seq ?_
  refine doC_block ?_
  refine doC_seq ?_
  refine doC_region ?_
  refine doL_v (opV_move rfl) rfl rfl rfl ?_
  refine doL_v (opV_assign rfl) rfl rfl rfl ?_
  refine doL_nil ?_
  refine post_then ?_
  refine doC_keep (ks := [2, 3, 4, 5, 6, 7, 8, 9, 10, 13, 16]) rfl ?_
  refine doC_drawn 13 mo (by kernel_rfl) ?_
  simp only [List.take_succ_cons, List.take_zero, List.drop_succ_cons, List.drop_zero]
  refine doG_v (opV_loadA 8 ty23 rfl rfl rfl) rfl rfl rfl ?_
  refine doG_v (opV_move rfl) rfl rfl rfl ?_
  refine doG_v (opV_move rfl) rfl rfl rfl ?_
  refine doG_v (opV_indexAddr ar28 rfl rfl (by first | decide | omega) (by first | decide | omega)) rfl rfl rfl ?_
  refine doG_v (opV_indexAddr ar26 rfl rfl (by first | decide | omega) (by first | decide | omega)) rfl rfl rfl ?_
  refine doG_v (opV_loadA 2 ty23 rfl rfl rfl) rfl rfl rfl ?_
  refine doG_v (opV_move rfl) rfl rfl rfl ?_
  refine doG_v (opV_move rfl) rfl rfl rfl ?_
  refine doG_v (opV_indexAddr ar28 rfl rfl (by first | decide | omega) (by first | decide | omega)) rfl rfl rfl ?_
  refine doG_v (opV_indexAddr ar26 rfl rfl (by first | decide | omega) (by first | decide | omega)) rfl rfl rfl ?_
  refine doG_v (opV_loadA 3 ty23 rfl rfl rfl) rfl rfl rfl ?_
  refine doG_vg (F := iv) (opV_call en85 rfl (fun w _ => iMul _ _ _ _  w)) rfl rfl rfl ?_; intro r30_6 hr30_6
  refine doG_vg (F := iv) (opV_call en84 rfl (fun w _ => iAdd _ _ _ _  w)) rfl rfl rfl ?_; intro r31_6 hr31_6
  refine doG_nil ?_
  refine tail_nil ?_
  refine doL_store 8 ty23 rfl rfl rfl rfl rfl rfl rfl rfl ?_
  refine doL_nil ?_
  refine post_block_normal ?_
  refine post_then ?_
  refine doC_region ?_
  refine doL_v (opV_add rfl rfl (by first | exact i64_in ⟨by omega, by omega⟩ | rfl)) rfl rfl rfl ?_
  refine doL_v (opV_move rfl) rfl rfl rfl ?_
  refine doL_nil ?_
  refine post_rounds ?_
  refine doR_succ ?_
  refine doC_seq ?_
  refine doC_region ?_
  refine doL_v (opV_lss rfl rfl) rfl rfl rfl ?_
  refine doL_nil ?_
  refine post_then ?_
  refine doC_seq ?_
  refine doC_cond_f rfl (by decide) ?_
  refine doC_exit ?_
  refine post_then_exit ?_
  refine post_then_exit ?_
  refine post_block_exit ?_
  refine post_then ?_
  refine doC_keep (ks := [2, 3, 4, 5, 6, 7, 8, 9, 10, 13, 16]) rfl ?_
  refine doC_drawn 11 mo (by kernel_rfl) ?_
  simp only [List.take_succ_cons, List.take_zero, List.drop_succ_cons, List.drop_zero]
  refine doG_v (opV_move rfl) rfl rfl rfl ?_
  refine doG_v (opV_move rfl) rfl rfl rfl ?_
  refine doG_v (opV_fieldAddr fa23_0 rfl) rfl rfl rfl ?_
  refine doG_v (opV_load1 8 ty2 rfl rfl rfl) rfl rfl rfl ?_
  refine doG_vg (F := vI) (opV_call en89 rfl (fun w _ => mLimited _  w)) rfl rfl rfl ?_; intro r37_2 hr37_2
  refine doG_v (opV_fieldAddr fa23_1 rfl) rfl rfl rfl ?_
  refine doG_v (opV_load1 8 ty2 rfl rfl rfl) rfl rfl rfl ?_
  refine doG_vg (F := vI) (opV_call en89 rfl (fun w _ => mLimited _  w)) rfl rfl rfl ?_; intro r40_2 hr40_2
  refine doG_v (opV_build la23 rfl rfl) rfl rfl rfl ?_
  refine doG_v (opV_indexAddr ar28 rfl rfl (by first | decide | omega) (by first | decide | omega)) rfl rfl rfl ?_
  refine doG_v (opV_indexAddr ar26 rfl rfl (by first | decide | omega) (by first | decide | omega)) rfl rfl rfl ?_
  refine doG_nil ?_
  refine tail_nil ?_
  refine doL_store 5 ty23 rfl rfl rfl rfl rfl rfl rfl rfl ?_
  refine doL_nil ?_
  refine post_block_normal ?_
  refine post_then ?_
  refine doC_region ?_
  refine doL_v (opV_add rfl rfl (by first | exact i64_in ⟨by omega, by omega⟩ | rfl)) rfl rfl rfl ?_
  refine doL_v (opV_move rfl) rfl rfl rfl ?_
  refine doL_nil ?_
  refine post_rounds ?_
  refine doR_succ ?_
  refine doC_seq ?_
  refine doC_region ?_
  refine doL_v (opV_lss rfl rfl) rfl rfl rfl ?_
  refine doL_nil ?_
  refine post_then ?_
  refine doC_seq ?_
  refine doC_cond_t rfl (by decide) ?_
  refine doC_skip ?_
  refine post_then ?_
  refine doC_seq ?_
  refine doC_block ?_
  refine doC_seq ?_
  refine doC_region ?_
  refine doL_v (opV_move rfl) rfl rfl rfl ?_
  refine doL_v (opV_assign rfl) rfl rfl rfl ?_
  refine doL_nil ?_
  refine post_then ?_
  refine doC_seq ?_
  refine doC_keepH (ks := [2, 3, 4, 5]) rfl ?_
  refine doC_region ?_
  refine doL_alloc 8 ze23 rfl rfl rfl ?_; intro b8_3
  refine doL_nil ?_
  refine post_then ?_
  refine doC_seq ?_
  refine doC_seq ?_
  refine doC_region ?_
  refine doL_v (opV_move rfl) rfl rfl rfl ?_
  refine doL_nil ?_
  refine post_then ?_
  refine doC_block ?_
  refine doC_rounds 4 ?_
  refine doR_succ ?_
  refine doC_seq ?_
  refine doC_region ?_
  refine doL_v (opV_lss rfl rfl) rfl rfl rfl ?_
  refine doL_nil ?_
  refine post_then ?_
  refine doC_seq ?_
  refine doC_cond_t rfl (by decide) ?_
  refine doC_skip ?_
  refine post_then ?_
  refine doC_seq ?_
  refine doC_block ?_
  refine doC_seq ?_
  refine doC_region ?_
  refine doL_v (opV_move rfl) rfl rfl rfl ?_
  refine doL_v (opV_assign rfl) rfl rfl rfl ?_
  refine doL_nil ?_
  refine post_then ?_
  refine doC_keep (ks := [2, 3, 4, 5, 6, 7, 8, 9, 10, 13, 16]) rfl ?_
  refine doC_drawn 13 mo (by kernel_rfl) ?_
  simp only [List.take_succ_cons, List.take_zero, List.drop_succ_cons, List.drop_zero]
  refine doG_v (opV_loadA 8 ty23 rfl rfl rfl) rfl rfl rfl ?_
  refine doG_v (opV_move rfl) rfl rfl rfl ?_
  refine doG_v (opV_move rfl) rfl rfl rfl ?_
  refine doG_v (opV_indexAddr ar28 rfl rfl (by first | decide | omega) (by first | decide | omega)) rfl rfl rfl ?_
  refine doG_v (opV_indexAddr ar26 rfl rfl (by first | decide | omega) (by first | decide | omega)) rfl rfl rfl ?_
  refine doG_v (opV_loadA 2 ty23 rfl rfl rfl) rfl rfl rfl ?_
  refine doG_v (opV_move rfl) rfl rfl rfl ?_
  refine doG_v (opV_move rfl) rfl rfl rfl ?_
  refine doG_v (opV_indexAddr ar28 rfl rfl (by first | decide | omega) (by first | decide | omega)) rfl rfl rfl ?_
  refine doG_v (opV_indexAddr ar26 rfl rfl (by first | decide | omega) (by first | decide | omega)) rfl rfl rfl ?_
  refine doG_v (opV_loadA 3 ty23 rfl rfl rfl) rfl rfl rfl ?_
  refine doG_vg (F := iv) (opV_call en85 rfl (fun w _ => iMul _ _ _ _  w)) rfl rfl rfl ?_; intro r30_7 hr30_7
  refine doG_vg (F := iv) (opV_call en84 rfl (fun w _ => iAdd _ _ _ _  w)) rfl rfl rfl ?_; intro r31_7 hr31_7
  refine doG_nil ?_
  refine tail_nil ?_
  refine doL_store 8 ty23 rfl rfl rfl rfl rfl rfl rfl rfl ?_
  refine doL_nil ?_
  refine post_block_normal ?_
  refine post_then ?_
  refine doC_region ?_
  refine doL_v (opV_add rfl rfl (by first | exact i64_in ⟨by omega, by omega⟩ | rfl)) rfl rfl rfl ?_
  refine doL_v (opV_move rfl) rfl rfl rfl ?_
  refine doL_nil ?_
  refine post_rounds ?_
  refine doR_succ ?_
  refine doC_seq ?_
  refine doC_region ?_
  refine doL_v (opV_lss rfl rfl) rfl rfl rfl ?_
  refine doL_nil ?_
  refine post_then ?_
  refine doC_seq ?_
  refine doC_cond_t rfl (by decide) ?_
  refine doC_skip ?_
  refine post_then ?_
  refine doC_seq ?_
  refine doC_block ?_
  refine doC_seq ?_
  refine doC_region ?_
  refine doL_v (opV_move rfl) rfl rfl rfl ?_
  refine doL_v (opV_assign rfl) rfl rfl rfl ?_
  refine doL_nil ?_
  refine post_then ?_
  refine doC_keep (ks := [2, 3, 4, 5, 6, 7, 8, 9, 10, 13, 16]) rfl ?_
  refine doC_drawn 13 mo (by kernel_rfl) ?_
  simp only [List.take_succ_cons, List.take_zero, List.drop_succ_cons, List.drop_zero]
  refine doG_v (opV_loadA 8 ty23 rfl rfl rfl) rfl rfl rfl ?_
  refine doG_v (opV_move rfl) rfl rfl rfl ?_
  refine doG_v (opV_move rfl) rfl rfl rfl ?_
  refine doG_v (opV_indexAddr ar28 rfl rfl (by first | decide | omega) (by first | decide | omega)) rfl rfl rfl ?_
  refine doG_v (opV_indexAddr ar26 rfl rfl (by first | decide | omega) (by first | decide | omega)) rfl rfl rfl ?_
  refine doG_v (opV_loadA 2 ty23 rfl rfl rfl) rfl rfl rfl ?_
  refine doG_v (opV_move rfl) rfl rfl rfl ?_
  refine doG_v (opV_move rfl) rfl rfl rfl ?_
  refine doG_v (opV_indexAddr ar28 rfl rfl (by first | decide | omega) (by first | decide | omega)) rfl rfl rfl ?_
  refine doG_v (opV_indexAddr ar26 rfl rfl (by first | decide | omega) (by first | decide | omega)) rfl rfl rfl ?_
  refine doG_v (opV_loadA 3 ty23 rfl rfl rfl) rfl rfl rfl ?_
  refine doG_vg (F := iv) (opV_call en85 rfl (fun w _ => iMul _ _ _ _  w)) rfl rfl rfl ?_; intro r30_8 hr30_8
  refine doG_vg (F := iv) (opV_call en84 rfl (fun w _ => iAdd _ _ _ _  w)) rfl rfl rfl ?_; intro r31_8 hr31_8
  refine doG_nil ?_
  refine tail_nil ?_
  refine doL_store 8 ty23 rfl rfl rfl rfl rfl rfl rfl rfl ?_
  refine doL_nil ?_
  refine post_block_normal ?_
  refine post_then ?_
  refine doC_region ?_
  refine doL_v (opV_add rfl rfl (by first | exact i64_in ⟨by omega, by omega⟩ | rfl)) rfl rfl rfl ?_
  refine doL_v (opV_move rfl) rfl rfl rfl ?_
  refine doL_nil ?_
  refine post_rounds ?_
  refine doR_succ ?_
  refine doC_seq ?_
  refine doC_region ?_
  refine doL_v (opV_lss rfl rfl) rfl rfl rfl ?_
  refine doL_nil ?_
  refine post_then ?_
  refine doC_seq ?_
  refine doC_cond_t rfl (by decide) ?_
  refine doC_skip ?_
  refine post_then ?_
  refine doC_seq ?_
  refine doC_block ?_
  refine doC_seq ?_
  refine doC_region ?_
  refine doL_v (opV_move rfl) rfl rfl rfl ?_
  refine doL_v (opV_assign rfl) rfl rfl rfl ?_
  refine doL_nil ?_
  refine post_then ?_
  refine doC_keep (ks := [2, 3, 4, 5, 6, 7, 8, 9, 10, 13, 16]) rfl ?_
  refine doC_drawn 13 mo (by kernel_rfl) ?_
  simp only [List.take_succ_cons, List.take_zero, List.drop_succ_cons, List.drop_zero]
  refine doG_v (opV_loadA 8 ty23 rfl rfl rfl) rfl rfl rfl ?_
  refine doG_v (opV_move rfl) rfl rfl rfl ?_
  refine doG_v (opV_move rfl) rfl rfl rfl ?_
  refine doG_v (opV_indexAddr ar28 rfl rfl (by first | decide | omega) (by first | decide | omega)) rfl rfl rfl ?_
  refine doG_v (opV_indexAddr ar26 rfl rfl (by first | decide | omega) (by first | decide | omega)) rfl rfl rfl ?_
  refine doG_v (opV_loadA 2 ty23 rfl rfl rfl) rfl rfl rfl ?_
  refine doG_v (opV_move rfl) rfl rfl rfl ?_
  refine doG_v (opV_move rfl) rfl rfl rfl ?_
  refine doG_v (opV_indexAddr ar28 rfl rfl (by first | decide | omega) (by first | decide | omega)) rfl rfl rfl ?_
  refine doG_v (opV_indexAddr ar26 rfl rfl (by first | decide | omega) (by first | decide | omega)) rfl rfl rfl ?_
  refine doG_v (opV_loadA 3 ty23 rfl rfl rfl) rfl rfl rfl ?_
  refine doG_vg (F := iv) (opV_call en85 rfl (fun w _ => iMul _ _ _ _  w)) rfl rfl rfl ?_; intro r30_9 hr30_9
  refine doG_vg (F := iv) (opV_call en84 rfl (fun w _ => iAdd _ _ _ _  w)) rfl rfl rfl ?_; intro r31_9 hr31_9
  refine doG_nil ?_
  refine tail_nil ?_
  refine doL_store 8 ty23 rfl rfl rfl rfl rfl rfl rfl rfl ?_
  refine doL_nil ?_
  refine post_block_normal ?_
  refine post_then ?_
  refine doC_region ?_
  refine doL_v (opV_add rfl rfl (by first | exact i64_in ⟨by omega, by omega⟩ | rfl)) rfl rfl rfl ?_
  refine doL_v (opV_move rfl) rfl rfl rfl ?_
  refine doL_nil ?_
  refine post_rounds ?_
  refine doR_succ ?_
  refine doC_seq ?_
  refine doC_region ?_
  refine doL_v (opV_lss rfl rfl) rfl rfl rfl ?_
  refine doL_nil ?_
  refine post_then ?_
  refine doC_seq ?_
  refine doC_cond_f rfl (by decide) ?_
  refine doC_exit ?_
  refine post_then_exit ?_
  refine post_then_exit ?_
  refine post_block_exit ?_
  refine post_then ?_
  refine doC_keep (ks := [2, 3, 4, 5, 6, 7, 8, 9, 10, 13, 16]) rfl ?_
  refine doC_drawn 11 mo (by kernel_rfl) ?_
  simp only [List.take_succ_cons, List.take_zero, List.drop_succ_cons, List.drop_zero]
  refine doG_v (opV_move rfl) rfl rfl rfl ?_
  refine doG_v (opV_move rfl) rfl rfl rfl ?_
  refine doG_v (opV_fieldAddr fa23_0 rfl) rfl rfl rfl ?_
  refine doG_v (opV_load1 8 ty2 rfl rfl rfl) rfl rfl rfl ?_
  refine doG_vg (F := vI) (opV_call en89 rfl (fun w _ => mLimited _  w)) rfl rfl rfl ?_; intro r37_3 hr37_3
  refine doG_v (opV_fieldAddr fa23_1 rfl) rfl rfl rfl ?_
  refine doG_v (opV_load1 8 ty2 rfl rfl rfl) rfl rfl rfl ?_
  refine doG_vg (F := vI) (opV_call en89 rfl (fun w _ => mLimited _  w)) rfl rfl rfl ?_; intro r40_3 hr40_3
  refine doG_v (opV_build la23 rfl rfl) rfl rfl rfl ?_
  refine doG_v (opV_indexAddr ar28 rfl rfl (by first | decide | omega) (by first | decide | omega)) rfl rfl rfl ?_
  refine doG_v (opV_indexAddr ar26 rfl rfl (by first | decide | omega) (by first | decide | omega)) rfl rfl rfl ?_
  refine doG_nil ?_
  refine tail_nil ?_
  refine doL_store 5 ty23 rfl rfl rfl rfl rfl rfl rfl rfl ?_
  refine doL_nil ?_
  refine post_block_normal ?_
  refine post_then ?_
  refine doC_region ?_
  refine doL_v (opV_add rfl rfl (by first | exact i64_in ⟨by omega, by omega⟩ | rfl)) rfl rfl rfl ?_
  refine doL_v (opV_move rfl) rfl rfl rfl ?_
  refine doL_nil ?_
  refine post_rounds ?_
  refine doR_succ ?_
  refine doC_seq ?_
  refine doC_region ?_
  refine doL_v (opV_lss rfl rfl) rfl rfl rfl ?_
  refine doL_nil ?_
  refine post_then ?_
  refine doC_seq ?_
  refine doC_cond_f rfl (by decide) ?_
  refine doC_exit ?_
  refine post_then_exit ?_
  refine post_then_exit ?_
  refine post_block_exit ?_
  refine post_block_normal ?_
  refine post_then ?_
  refine doC_region ?_
  refine doL_v (opV_add rfl rfl (by first | exact i64_in ⟨by omega, by omega⟩ | rfl)) rfl rfl rfl ?_
  refine doL_v (opV_move rfl) rfl rfl rfl ?_
  refine doL_nil ?_
  refine post_rounds ?_
  refine doR_succ ?_
  refine doC_seq ?_
  refine doC_region ?_
  refine doL_v (opV_lss rfl rfl) rfl rfl rfl ?_
  refine doL_nil ?_
  refine post_then ?_
  refine doC_seq ?_
  refine doC_cond_t rfl (by decide) ?_
  refine doC_skip ?_
  refine post_then ?_
  refine doC_seq ?_
  refine doC_block ?_
  refine doC_seq ?_
  refine doC_region ?_
  refine doL_v (opV_move rfl) rfl rfl rfl ?_
  refine doL_v (opV_assign rfl) rfl rfl rfl ?_
  refine doL_nil ?_
  refine post_then ?_
  refine doC_seq ?_
  refine doC_region ?_
  refine doL_v (opV_move rfl) rfl rfl rfl ?_
  refine doL_nil ?_
  refine post_then ?_
  refine doC_block ?_
  refine doC_rounds 4 ?_
  refine doR_succ ?_
  refine doC_seq ?_
  refine doC_region ?_
  refine doL_v (opV_lss rfl rfl) rfl rfl rfl ?_
  refine doL_nil ?_
  refine post_then ?_
  refine doC_seq ?_
  refine doC_cond_t rfl (by decide) ?_
  refine doC_skip ?_
  refine post_then ?_
  refine doC_seq ?_
  refine doC_block ?_
  refine doC_seq ?_
  refine doC_region ?_
  refine doL_v (opV_move rfl) rfl rfl rfl ?_
  refine doL_v (opV_assign rfl) rfl rfl rfl ?_
  refine doL_nil ?_
  refine post_then ?_
  refine doC_seq ?_
  refine doC_keepH (ks := [2, 3, 4, 5]) rfl ?_
  refine doC_region ?_
  refine doL_alloc 8 ze23 rfl rfl rfl ?_; intro b8_4
  refine doL_nil ?_
  refine post_then ?_
  refine doC_seq ?_
  refine doC_seq ?_
  refine doC_region ?_
  refine doL_v (opV_move rfl) rfl rfl rfl ?_
  refine doL_nil ?_
  refine post_then ?_
  refine doC_block ?_
  refine doC_rounds 4 ?_
  refine doR_succ ?_
  refine doC_seq ?_
  refine doC_region ?_
  refine doL_v (opV_lss rfl rfl) rfl rfl rfl ?_
  refine doL_nil ?_
  refine post_then ?_
  refine doC_seq ?_
  refine doC_cond_t rfl (by decide) ?_
  refine doC_skip ?_
  refine post_then ?_
  refine doC_seq ?_
  refine doC_block ?_
  refine doC_seq ?_
  refine doC_region ?_
  refine doL_v (opV_move rfl) rfl rfl rfl ?_
  refine doL_v (opV_assign rfl) rfl rfl rfl ?_
  refine doL_nil ?_
  refine post_then ?_
  refine doC_keep (ks := [2, 3, 4, 5, 6, 7, 8, 9, 10, 13, 16]) rfl ?_
  refine doC_drawn 13 mo (by kernel_rfl) ?_
  simp only [List.take_succ_cons, List.take_zero, List.drop_succ_cons, List.drop_zero]
  refine doG_v (opV_loadA 8 ty23 rfl rfl rfl) rfl rfl rfl ?_
  refine doG_v (opV_move rfl) rfl rfl rfl ?_
  refine doG_v (opV_move rfl) rfl rfl rfl ?_
  refine doG_v (opV_indexAddr ar28 rfl rfl (by first | decide | omega) (by first | decide | omega)) rfl rfl rfl ?_
  refine doG_v (opV_indexAddr ar26 rfl rfl (by first | decide | omega) (by first | decide | omega)) rfl rfl rfl ?_
  refine doG_v (opV_loadA 2 ty23 rfl rfl rfl) rfl rfl rfl ?_
  refine doG_v (opV_move rfl) rfl rfl rfl ?_
  refine doG_v (opV_move rfl) rfl rfl rfl ?_
  refine doG_v (opV_indexAddr ar28 rfl rfl (by first | decide | omega) (by first | decide | omega)) rfl rfl rfl ?_
  refine doG_v (opV_indexAddr ar26 rfl rfl (by first | decide | omega) (by first | decide | omega)) rfl rfl rfl ?_
  refine doG_v (opV_loadA 3 ty23 rfl rfl rfl) rfl rfl rfl ?_
  refine doG_vg (F := iv) (opV_call en85 rfl (fun w _ => iMul _ _ _ _  w)) rfl rfl rfl ?_; intro r30_10 hr30_10
  refine doG_vg (F := iv) (opV_call en84 rfl (fun w _ => iAdd _ _ _ _  w)) rfl rfl rfl ?_; intro r31_10 hr31_10
  refine doG_nil ?_
  refine tail_nil ?_
  refine doL_store 8 ty23 rfl rfl rfl rfl rfl rfl rfl rfl ?_
  refine doL_nil ?_
  refine post_block_normal ?_
  refine post_then ?_
  refine doC_region ?_
  refine doL_v (opV_add rfl rfl (by first | exact i64_in ⟨by omega, by omega⟩ | rfl)) rfl rfl rfl ?_
  refine doL_v (opV_move rfl) rfl rfl rfl ?_
  refine doL_nil ?_
  refine post_rounds ?_
  refine doR_succ ?_
  refine doC_seq ?_
  refine doC_region ?_
  refine doL_v (opV_lss rfl rfl) rfl rfl rfl ?_
  refine doL_nil ?_
  refine post_then ?_
  refine doC_seq ?_
  refine doC_cond_t rfl (by decide) ?_
  refine doC_skip ?_
  refine post_then ?_
  refine doC_seq ?_
  refine doC_block ?_
  refine doC_seq ?_
  refine doC_region ?_
  refine doL_v (opV_move rfl) rfl rfl rfl ?_
  refine doL_v (opV_assign rfl) rfl rfl rfl ?_
  refine doL_nil ?_
  refine post_then ?_
  refine doC_keep (ks := [2, 3, 4, 5, 6, 7, 8, 9, 10, 13, 16]) rfl ?_
  refine doC_drawn 13 mo (by kernel_rfl) ?_
  simp only [List.take_succ_cons, List.take_zero, List.drop_succ_cons, List.drop_zero]
  refine doG_v (opV_loadA 8 ty23 rfl rfl rfl) rfl rfl rfl ?_
  refine doG_v (opV_move rfl) rfl rfl rfl ?_
  refine doG_v (opV_move rfl) rfl rfl rfl ?_
  refine doG_v (opV_indexAddr ar28 rfl rfl (by first | decide | omega) (by first | decide | omega)) rfl rfl rfl ?_
  refine doG_v (opV_indexAddr ar26 rfl rfl (by first | decide | omega) (by first | decide | omega)) rfl rfl rfl ?_
  refine doG_v (opV_loadA 2 ty23 rfl rfl rfl) rfl rfl rfl ?_
  refine doG_v (opV_move rfl) rfl rfl rfl ?_
  refine doG_v (opV_move rfl) rfl rfl rfl ?_
  refine doG_v (opV_indexAddr ar28 rfl rfl (by first | decide | omega) (by first | decide | omega)) rfl rfl rfl ?_
  refine doG_v (opV_indexAddr ar26 rfl rfl (by first | decide | omega) (by first | decide | omega)) rfl rfl rfl ?_
  refine doG_v (opV_loadA 3 ty23 rfl rfl rfl) rfl rfl rfl ?_
  refine doG_vg (F := iv) (opV_call en85 rfl (fun w _ => iMul _ _ _ _  w)) rfl rfl rfl ?_; intro r30_11 hr30_11
  refine doG_vg (F := iv) (opV_call en84 rfl (fun w _ => iAdd _ _ _ _  w)) rfl rfl rfl ?_; intro r31_11 hr31_11
  refine doG_nil ?_
  refine tail_nil ?_
  refine doL_store 8 ty23 rfl rfl rfl rfl rfl rfl rfl rfl ?_
  refine doL_nil ?_
  refine post_block_normal ?_
  refine post_then ?_
  refine doC_region ?_
  refine doL_v (opV_add rfl rfl (by first | exact i64_in ⟨by omega, by omega⟩ | rfl)) rfl rfl rfl ?_
  refine doL_v (opV_move rfl) rfl rfl rfl ?_
  refine doL_nil ?_
  refine post_rounds ?_
  refine doR_succ ?_
  refine doC_seq ?_
  refine doC_region ?_
  refine doL_v (opV_lss rfl rfl) rfl rfl rfl ?_
  refine doL_nil ?_
  refine post_then ?_
  refine doC_seq ?_
  refine doC_cond_t rfl (by decide) ?_
  refine doC_skip ?_
  refine post_then ?_
  refine doC_seq ?_
  refine doC_block ?_
  refine doC_seq ?_
  refine doC_region ?_
  refine doL_v (opV_move rfl) rfl rfl rfl ?_
  refine doL_v (opV_assign rfl) rfl rfl rfl ?_
  refine doL_nil ?_
  refine post_then ?_
  refine doC_keep (ks := [2, 3, 4, 5, 6, 7, 8, 9, 10, 13, 16]) rfl ?_
  refine doC_drawn 13 mo (by kernel_rfl) ?_
  simp only [List.take_succ_cons, List.take_zero, List.drop_succ_cons, List.drop_zero]
  refine doG_v (opV_loadA 8 ty23 rfl rfl rfl) rfl rfl rfl ?_
  refine doG_v (opV_move rfl) rfl rfl rfl ?_
  refine doG_v (opV_move rfl) rfl rfl rfl ?_
  refine doG_v (opV_indexAddr ar28 rfl rfl (by first | decide | omega) (by first | decide | omega)) rfl rfl rfl ?_
  refine doG_v (opV_indexAddr ar26 rfl rfl (by first | decide | omega) (by first | decide | omega)) rfl rfl rfl ?_
  refine doG_v (opV_loadA 2 ty23 rfl rfl rfl) rfl rfl rfl ?_
  refine doG_v (opV_move rfl) rfl rfl rfl ?_
  refine doG_v (opV_move rfl) rfl rfl rfl ?_
  refine doG_v (opV_indexAddr ar28 rfl rfl (by first | decide | omega) (by first | decide | omega)) rfl rfl rfl ?_
  refine doG_v (opV_indexAddr ar26 rfl rfl (by first | decide | omega) (by first | decide | omega)) rfl rfl rfl ?_
  refine doG_v (opV_loadA 3 ty23 rfl rfl rfl) rfl rfl rfl ?_
  refine doG_vg (F := iv) (opV_call en85 rfl (fun w _ => iMul _ _ _ _  w)) rfl rfl rfl ?_; intro r30_12 hr30_12
  refine doG_vg (F := iv) (opV_call en84 rfl (fun w _ => iAdd _ _ _ _  w)) rfl rfl rfl ?_; intro r31_12 hr31_12
  refine doG_nil ?_
  refine tail_nil ?_
  refine doL_store 8 ty23 rfl rfl rfl rfl rfl rfl rfl rfl ?_
  refine doL_nil ?_
  refine post_block_normal ?_
  refine post_then ?_
  refine doC_region ?_
  refine doL_v (opV_add rfl rfl (by first | exact i64_in ⟨by omega, by omega⟩ | rfl)) rfl rfl rfl ?_
  refine doL_v (opV_move rfl) rfl rfl rfl ?_
  refine doL_nil ?_
  refine post_rounds ?_
  refine doR_succ ?_
  refine doC_seq ?_
  refine doC_region ?_
  refine doL_v (opV_lss rfl rfl) rfl rfl rfl ?_
  refine doL_nil ?_
  refine post_then ?_
  refine doC_seq ?_
  refine doC_cond_f rfl (by decide) ?_
  refine doC_exit ?_
  refine post_then_exit ?_
  refine post_then_exit ?_
  refine post_block_exit ?_
  refine post_then ?_
  refine doC_keep (ks := [2, 3, 4, 5, 6, 7, 8, 9, 10, 13, 16]) rfl ?_
  refine doC_drawn 11 mo (by kernel_rfl) ?_
  simp only [List.take_succ_cons, List.take_zero, List.drop_succ_cons, List.drop_zero]
  refine doG_v (opV_move rfl) rfl rfl rfl ?_
  refine doG_v (opV_move rfl) rfl rfl rfl ?_
  refine doG_v (opV_fieldAddr fa23_0 rfl) rfl rfl rfl ?_
  refine doG_v (opV_load1 8 ty2 rfl rfl rfl) rfl rfl rfl ?_
  refine doG_vg (F := vI) (opV_call en89 rfl (fun w _ => mLimited _  w)) rfl rfl rfl ?_; intro r37_4 hr37_4
  refine doG_v (opV_fieldAddr fa23_1 rfl) rfl rfl rfl ?_
  refine doG_v (opV_load1 8 ty2 rfl rfl rfl) rfl rfl rfl ?_
  refine doG_vg (F := vI) (opV_call en89 rfl (fun w _ => mLimited _  w)) rfl rfl rfl ?_; intro r40_4 hr40_4
  refine doG_v (opV_build la23 rfl rfl) rfl rfl rfl ?_
  refine doG_v (opV_indexAddr ar28 rfl rfl (by first | decide | omega) (by first | decide | omega)) rfl rfl rfl ?_
  refine doG_v (opV_indexAddr ar26 rfl rfl (by first | decide | omega) (by first | decide | omega)) rfl rfl rfl ?_
  refine doG_nil ?_
  refine tail_nil ?_
  refine doL_store 5 ty23 rfl rfl rfl rfl rfl rfl rfl rfl ?_
  refine doL_nil ?_
  refine post_block_normal ?_
  refine post_then ?_
  refine doC_region ?_
  refine doL_v (opV_add rfl rfl (by first | exact i64_in ⟨by omega, by omega⟩ | rfl)) rfl rfl rfl ?_
  refine doL_v (opV_move rfl) rfl rfl rfl ?_
  refine doL_nil ?_
  refine post_rounds ?_
  refine doR_succ ?_
  refine doC_seq ?_
  refine doC_region ?_
  refine doL_v (opV_lss rfl rfl) rfl rfl rfl ?_
  refine doL_nil ?_
  refine post_then ?_
  refine doC_seq ?_
  refine doC_cond_t rfl (by decide) ?_
  refine doC_skip ?_
  refine post_then ?_
  refine doC_seq ?_
  refine doC_block ?_
  refine doC_seq ?_
  refine doC_region ?_
  refine doL_v (opV_move rfl) rfl rfl rfl ?_
  refine doL_v (opV_assign rfl) rfl rfl rfl ?_
  refine doL_nil ?_
  refine post_then ?_
  refine doC_seq ?_
  refine doC_keepH (ks := [2, 3, 4, 5]) rfl ?_
  refine doC_region ?_
  refine doL_alloc 8 ze23 rfl rfl rfl ?_; intro b8_5
  refine doL_nil ?_
  refine post_then ?_
  refine doC_seq ?_
  refine doC_seq ?_
  refine doC_region ?_
  refine doL_v (opV_move rfl) rfl rfl rfl ?_
  refine doL_nil ?_
  refine post_then ?_
  refine doC_block ?_
  refine doC_rounds 4 ?_
  refine doR_succ ?_
  refine doC_seq ?_
  refine doC_region ?_
  refine doL_v (opV_lss rfl rfl) rfl rfl rfl ?_
  refine doL_nil ?_
  refine post_then ?_
  refine doC_seq ?_
  refine doC_cond_t rfl (by decide) ?_
  refine doC_skip ?_
  refine post_then ?_
  refine doC_seq ?_
  refine doC_block ?_
  refine doC_seq ?_
  refine doC_region ?_
  refine doL_v (opV_move rfl) rfl rfl rfl ?_
  refine doL_v (opV_assign rfl) rfl rfl rfl ?_
  refine doL_nil ?_
  refine post_then ?_
  refine doC_keep (ks := [2, 3, 4, 5, 6, 7, 8, 9, 10, 13, 16]) rfl ?_
  refine doC_drawn 13 mo (by kernel_rfl) ?_
  simp only [List.take_succ_cons, List.take_zero, List.drop_succ_cons, List.drop_zero]
  refine doG_v (opV_loadA 8 ty23 rfl rfl rfl) rfl rfl rfl ?_
  refine doG_v (opV_move rfl) rfl rfl rfl ?_
  refine doG_v (opV_move rfl) rfl rfl rfl ?_
  refine doG_v (opV_indexAddr ar28 rfl rfl (by first | decide | omega) (by first | decide | omega)) rfl rfl rfl ?_
  refine doG_v (opV_indexAddr ar26 rfl rfl (by first | decide | omega) (by first | decide | omega)) rfl rfl rfl ?_
  refine doG_v (opV_loadA 2 ty23 rfl rfl rfl) rfl rfl rfl ?_
  refine doG_v (opV_move rfl) rfl rfl rfl ?_
  refine doG_v (opV_move rfl) rfl rfl rfl ?_
  refine doG_v (opV_indexAddr ar28 rfl rfl (by first | decide | omega) (by first | decide | omega)) rfl rfl rfl ?_
  refine doG_v (opV_indexAddr ar26 rfl rfl (by first | decide | omega) (by first | decide | omega)) rfl rfl rfl ?_
  refine doG_v (opV_loadA 3 ty23 rfl rfl rfl) rfl rfl rfl ?_
  refine doG_vg (F := iv) (opV_call en85 rfl (fun w _ => iMul _ _ _ _  w)) rfl rfl rfl ?_; intro r30_13 hr30_13
  refine doG_vg (F := iv) (opV_call en84 rfl (fun w _ => iAdd _ _ _ _  w)) rfl rfl rfl ?_; intro r31_13 hr31_13
  refine doG_nil ?_
  refine tail_nil ?_
  refine doL_store 8 ty23 rfl rfl rfl rfl rfl rfl rfl rfl ?_
  refine doL_nil ?_
  refine post_block_normal ?_
  refine post_then ?_
  refine doC_region ?_
  refine doL_v (opV_add rfl rfl (by first | exact i64_in ⟨by omega, by omega⟩ | rfl)) rfl rfl rfl ?_
  refine doL_v (opV_move rfl) rfl rfl rfl ?_
  refine doL_nil ?_
  refine post_rounds ?_
  refine doR_succ ?_
  refine doC_seq ?_
  refine doC_region ?_
  refine doL_v (opV_lss rfl rfl) rfl rfl rfl ?_
  refine doL_nil ?_
  refine post_then ?_
  refine doC_seq ?_
  refine doC_cond_t rfl (by decide) ?_
  refine doC_skip ?_
  refine post_then ?_
  refine doC_seq ?_
  refine doC_block ?_
  refine doC_seq ?_
  refine doC_region ?_
  refine doL_v (opV_move rfl) rfl rfl rfl ?_
  refine doL_v (opV_assign rfl) rfl rfl rfl ?_
  refine doL_nil ?_
  refine post_then ?_
  refine doC_keep (ks := [2, 3, 4, 5, 6, 7, 8, 9, 10, 13, 16]) rfl ?_
  refine doC_drawn 13 mo (by kernel_rfl) ?_
  simp only [List.take_succ_cons, List.take_zero, List.drop_succ_cons, List.drop_zero]
  refine doG_v (opV_loadA 8 ty23 rfl rfl rfl) rfl rfl rfl ?_
  refine doG_v (opV_move rfl) rfl rfl rfl ?_
  refine doG_v (opV_move rfl) rfl rfl rfl ?_
  refine doG_v (opV_indexAddr ar28 rfl rfl (by first | decide | omega) (by first | decide | omega)) rfl rfl rfl ?_
  refine doG_v (opV_indexAddr ar26 rfl rfl (by first | decide | omega) (by first | decide | omega)) rfl rfl rfl ?_
  refine doG_v (opV_loadA 2 ty23 rfl rfl rfl) rfl rfl rfl ?_
  refine doG_v (opV_move rfl) rfl rfl rfl ?_
  refine doG_v (opV_move rfl) rfl rfl rfl ?_
  refine doG_v (opV_indexAddr ar28 rfl rfl (by first | decide | omega) (by first | decide | omega)) rfl rfl rfl ?_
  refine doG_v (opV_indexAddr ar26 rfl rfl (by first | decide | omega) (by first | decide | omega)) rfl rfl rfl ?_
  refine doG_v (opV_loadA 3 ty23 rfl rfl rfl) rfl rfl rfl ?_
  refine doG_vg (F := iv) (opV_call en85 rfl (fun w _ => iMul _ _ _ _  w)) rfl rfl rfl ?_; intro r30_14 hr30_14
  refine doG_vg (F := iv) (opV_call en84 rfl (fun w _ => iAdd _ _ _ _  w)) rfl rfl rfl ?_; intro r31_14 hr31_14
  refine doG_nil ?_
  refine tail_nil ?_
  refine doL_store 8 ty23 rfl rfl rfl rfl rfl rfl rfl rfl ?_
  refine doL_nil ?_
  refine post_block_normal ?_
  refine post_then ?_
  refine doC_region ?_
  refine doL_v (opV_add rfl rfl (by first | exact i64_in ⟨by omega, by omega⟩ | rfl)) rfl rfl rfl ?_
  refine doL_v (opV_move rfl) rfl rfl rfl ?_
  refine doL_nil ?_
  refine post_rounds ?_
  refine doR_succ ?_
  refine doC_seq ?_
  refine doC_region ?_
  refine doL_v (opV_lss rfl rfl) rfl rfl rfl ?_
  refine doL_nil ?_
  refine post_then ?_
  refine doC_seq ?_
  refine doC_cond_t rfl (by decide) ?_
  refine doC_skip ?_
  refine post_then ?_
  refine doC_seq ?_
  refine doC_block ?_
  refine doC_seq ?_
  refine doC_region ?_
  refine doL_v (opV_move rfl) rfl rfl rfl ?_
  refine doL_v (opV_assign rfl) rfl rfl rfl ?_
  refine doL_nil ?_
  refine post_then ?_
  refine doC_keep (ks := [2, 3, 4, 5, 6, 7, 8, 9, 10, 13, 16]) rfl ?_
  refine doC_drawn 13 mo (by kernel_rfl) ?_
  simp only [List.take_succ_cons, List.take_zero, List.drop_succ_cons, List.drop_zero]
  refine doG_v (opV_loadA 8 ty23 rfl rfl rfl) rfl rfl rfl ?_
  refine doG_v (opV_move rfl) rfl rfl rfl ?_
  refine doG_v (opV_move rfl) rfl rfl rfl ?_
  refine doG_v (opV_indexAddr ar28 rfl rfl (by first | decide | omega) (by first | decide | omega)) rfl rfl rfl ?_
  refine doG_v (opV_indexAddr ar26 rfl rfl (by first | decide | omega) (by first | decide | omega)) rfl rfl rfl ?_
  refine doG_v (opV_loadA 2 ty23 rfl rfl rfl) rfl rfl rfl ?_
  refine doG_v (opV_move rfl) rfl rfl rfl ?_
  refine doG_v (opV_move rfl) rfl rfl rfl ?_
  refine doG_v (opV_indexAddr ar28 rfl rfl (by first | decide | omega) (by first | decide | omega)) rfl rfl rfl ?_
  refine doG_v (opV_indexAddr ar26 rfl rfl (by first | decide | omega) (by first | decide | omega)) rfl rfl rfl ?_
  refine doG_v (opV_loadA 3 ty23 rfl rfl rfl) rfl rfl rfl ?_
  refine doG_vg (F := iv) (opV_call en85 rfl (fun w _ => iMul _ _ _ _  w)) rfl rfl rfl ?_; intro r30_15 hr30_15
  refine doG_vg (F := iv) (opV_call en84 rfl (fun w _ => iAdd _ _ _ _  w)) rfl rfl rfl ?_; intro r31_15 hr31_15
  refine doG_nil ?_
  refine tail_nil ?_
  refine doL_store 8 ty23 rfl rfl rfl rfl rfl rfl rfl rfl ?_
  refine doL_nil ?_
  refine post_block_normal ?_
  refine post_then ?_
  refine doC_region ?_
  refine doL_v (opV_add rfl rfl (by first | exact i64_in ⟨by omega, by omega⟩ | rfl)) rfl rfl rfl ?_
  refine doL_v (opV_move rfl) rfl rfl rfl ?_
  refine doL_nil ?_
  refine post_rounds ?_
  refine doR_succ ?_
  refine doC_seq ?_
  refine doC_region ?_
  refine doL_v (opV_lss rfl rfl) rfl rfl rfl ?_
  refine doL_nil ?_
  refine post_then ?_
  refine doC_seq ?_
  refine doC_cond_f rfl (by decide) ?_
  refine doC_exit ?_
  refine post_then_exit ?_
  refine post_then_exit ?_
  refine post_block_exit ?_
  refine post_then ?_
  refine doC_keep (ks := [2, 3, 4, 5, 6, 7, 8, 9, 10, 13, 16]) rfl ?_
  refine doC_drawn 11 mo (by kernel_rfl) ?_
  simp only [List.take_succ_cons, List.take_zero, List.drop_succ_cons, List.drop_zero]
  refine doG_v (opV_move rfl) rfl rfl rfl ?_
  refine doG_v (opV_move rfl) rfl rfl rfl ?_
  refine doG_v (opV_fieldAddr fa23_0 rfl) rfl rfl rfl ?_
  refine doG_v (opV_load1 8 ty2 rfl rfl rfl) rfl rfl rfl ?_
  refine doG_vg (F := vI) (opV_call en89 rfl (fun w _ => mLimited _  w)) rfl rfl rfl ?_; intro r37_5 hr37_5
  refine doG_v (opV_fieldAddr fa23_1 rfl) rfl rfl rfl ?_
  refine doG_v (opV_load1 8 ty2 rfl rfl rfl) rfl rfl rfl ?_
  refine doG_vg (F := vI) (opV_call en89 rfl (fun w _ => mLimited _  w)) rfl rfl rfl ?_; intro r40_5 hr40_5
  refine doG_v (opV_build la23 rfl rfl) rfl rfl rfl ?_
  refine doG_v (opV_indexAddr ar28 rfl rfl (by first | decide | omega) (by first | decide | omega)) rfl rfl rfl ?_
  refine doG_v (opV_indexAddr ar26 rfl rfl (by first | decide | omega) (by first | decide | omega)) rfl rfl rfl ?_
  refine doG_nil ?_
  refine tail_nil ?_
  refine doL_store 5 ty23 rfl rfl rfl rfl rfl rfl rfl rfl ?_
  refine doL_nil ?_
  refine post_block_normal ?_
  refine post_then ?_
  refine doC_region ?_
  refine doL_v (opV_add rfl rfl (by first | exact i64_in ⟨by omega, by omega⟩ | rfl)) rfl rfl rfl ?_
  refine doL_v (opV_move rfl) rfl rfl rfl ?_
  refine doL_nil ?_
  refine post_rounds ?_
  refine doR_succ ?_
  refine doC_seq ?_
  refine doC_region ?_
  refine doL_v (opV_lss rfl rfl) rfl rfl rfl ?_
  refine doL_nil ?_
  refine post_then ?_
  refine doC_seq ?_
  refine doC_cond_t rfl (by decide) ?_
  refine doC_skip ?_
  refine post_then ?_
  refine doC_seq ?_
  refine doC_block ?_
  refine doC_seq ?_
  refine doC_region ?_
  refine doL_v (opV_move rfl) rfl rfl rfl ?_
  refine doL_v (opV_assign rfl) rfl rfl rfl ?_
  refine doL_nil ?_
  refine post_then ?_
  refine doC_seq ?_
  refine doC_keepH (ks := [2, 3, 4, 5]) rfl ?_
  refine doC_region ?_
  refine doL_alloc 8 ze23 rfl rfl rfl ?_; intro b8_6
  refine doL_nil ?_
  refine post_then ?_
  refine doC_seq ?_
  refine doC_seq ?_
  refine doC_region ?_
  refine doL_v (opV_move rfl) rfl rfl rfl ?_
  refine doL_nil ?_
  refine post_then ?_
  refine doC_block ?_
  refine doC_rounds 4 ?_
  refine doR_succ ?_
  refine doC_seq ?_
  refine doC_region ?_
  refine doL_v (opV_lss rfl rfl) rfl rfl rfl ?_
  refine doL_nil ?_
  refine post_then ?_
  refine doC_seq ?_
  refine doC_cond_t rfl (by decide) ?_
  refine doC_skip ?_
  refine post_then ?_
  refine doC_seq ?_
  refine doC_block ?_
  refine doC_seq ?_
  refine doC_region ?_
  refine doL_v (opV_move rfl) rfl rfl rfl ?_
  refine doL_v (opV_assign rfl) rfl rfl rfl ?_
  refine doL_nil ?_
  refine post_then ?_
  refine doC_keep (ks := [2, 3, 4, 5, 6, 7, 8, 9, 10, 13, 16]) rfl ?_
  refine doC_drawn 13 mo (by kernel_rfl) ?_
  simp only [List.take_succ_cons, List.take_zero, List.drop_succ_cons, List.drop_zero]
  refine doG_v (opV_loadA 8 ty23 rfl rfl rfl) rfl rfl rfl ?_
  refine doG_v (opV_move rfl) rfl rfl rfl ?_
  refine doG_v (opV_move rfl) rfl rfl rfl ?_
  refine doG_v (opV_indexAddr ar28 rfl rfl (by first | decide | omega) (by first | decide | omega)) rfl rfl rfl ?_
  refine doG_v (opV_indexAddr ar26 rfl rfl (by first | decide | omega) (by first | decide | omega)) rfl rfl rfl ?_
  refine doG_v (opV_loadA 2 ty23 rfl rfl rfl) rfl rfl rfl ?_
  refine doG_v (opV_move rfl) rfl rfl rfl ?_
  refine doG_v (opV_move rfl) rfl rfl rfl ?_
  refine doG_v (opV_indexAddr ar28 rfl rfl (by first | decide | omega) (by first | decide | omega)) rfl rfl rfl ?_
  refine doG_v (opV_indexAddr ar26 rfl rfl (by first | decide | omega) (by first | decide | omega)) rfl rfl rfl ?_
  refine doG_v (opV_loadA 3 ty23 rfl rfl rfl) rfl rfl rfl ?_
  refine doG_vg (F := iv) (opV_call en85 rfl (fun w _ => iMul _ _ _ _  w)) rfl rfl rfl ?_; intro r30_16 hr30_16
  refine doG_vg (F := iv) (opV_call en84 rfl (fun w _ => iAdd _ _ _ _  w)) rfl rfl rfl ?_; intro r31_16 hr31_16
  refine doG_nil ?_
  refine tail_nil ?_
  refine doL_store 8 ty23 rfl rfl rfl rfl rfl rfl rfl rfl ?_
  refine doL_nil ?_
  refine post_block_normal ?_
  refine post_then ?_
  refine doC_region ?_
  refine doL_v (opV_add rfl rfl (by first | exact i64_in ⟨by omega, by omega⟩ | rfl)) rfl rfl rfl ?_
  refine doL_v (opV_move rfl) rfl rfl rfl ?_
  refine doL_nil ?_
  refine post_rounds ?_
  refine doR_succ ?_
  refine doC_seq ?_
  refine doC_region ?_
  refine doL_v (opV_lss rfl rfl) rfl rfl rfl ?_
  refine doL_nil ?_
  refine post_then ?_
  refine doC_seq ?_
  refine doC_cond_t rfl (by decide) ?_
  refine doC_skip ?_
  refine post_then ?_
  refine doC_seq ?_
  refine doC_block ?_
  refine doC_seq ?_
  refine doC_region ?_
  refine doL_v (opV_move rfl) rfl rfl rfl ?_
  refine doL_v (opV_assign rfl) rfl rfl rfl ?_
  refine doL_nil ?_
  refine post_then ?_
  refine doC_keep (ks := [2, 3, 4, 5, 6, 7, 8, 9, 10, 13, 16]) rfl ?_
  refine doC_drawn 13 mo (by kernel_rfl) ?_
  simp only [List.take_succ_cons, List.take_zero, List.drop_succ_cons, List.drop_zero]
  refine doG_v (opV_loadA 8 ty23 rfl rfl rfl) rfl rfl rfl ?_
  refine doG_v (opV_move rfl) rfl rfl rfl ?_
  refine doG_v (opV_move rfl) rfl rfl rfl ?_
  refine doG_v (opV_indexAddr ar28 rfl rfl (by first | decide | omega) (by first | decide | omega)) rfl rfl rfl ?_
  refine doG_v (opV_indexAddr ar26 rfl rfl (by first | decide | omega) (by first | decide | omega)) rfl rfl rfl ?_
  refine doG_v (opV_loadA 2 ty23 rfl rfl rfl) rfl rfl rfl ?_
  refine doG_v (opV_move rfl) rfl rfl rfl ?_
  refine doG_v (opV_move rfl) rfl rfl rfl ?_
  refine doG_v (opV_indexAddr ar28 rfl rfl (by first | decide | omega) (by first | decide | omega)) rfl rfl rfl ?_
  refine doG_v (opV_indexAddr ar26 rfl rfl (by first | decide | omega) (by first | decide | omega)) rfl rfl rfl ?_
  refine doG_v (opV_loadA 3 ty23 rfl rfl rfl) rfl rfl rfl ?_
  refine doG_vg (F := iv) (opV_call en85 rfl (fun w _ => iMul _ _ _ _  w)) rfl rfl rfl ?_; intro r30_17 hr30_17
  refine doG_vg (F := iv) (opV_call en84 rfl (fun w _ => iAdd _ _ _ _  w)) rfl rfl rfl ?_; intro r31_17 hr31_17
  refine doG_nil ?_
  refine tail_nil ?_
  refine doL_store 8 ty23 rfl rfl rfl rfl rfl rfl rfl rfl ?_
  refine doL_nil ?_
  refine post_block_normal ?_
  refine post_then ?_
  refine doC_region ?_
  refine doL_v (opV_add rfl rfl (by first | exact i64_in ⟨by omega, by omega⟩ | rfl)) rfl rfl rfl ?_
  refine doL_v (opV_move rfl) rfl rfl rfl ?_
  refine doL_nil ?_
  refine post_rounds ?_
  refine doR_succ ?_
  refine doC_seq ?_
  refine doC_region ?_
  refine doL_v (opV_lss rfl rfl) rfl rfl rfl ?_
  refine doL_nil ?_
  refine post_then ?_
  refine doC_seq ?_
  refine doC_cond_t rfl (by decide) ?_
  refine doC_skip ?_
  refine post_then ?_
  refine doC_seq ?_
  refine doC_block ?_
  refine doC_seq ?_
  refine doC_region ?_
  refine doL_v (opV_move rfl) rfl rfl rfl ?_
  refine doL_v (opV_assign rfl) rfl rfl rfl ?_
  refine doL_nil ?_
  refine post_then ?_
  refine doC_keep (ks := [2, 3, 4, 5, 6, 7, 8, 9, 10, 13, 16]) rfl ?_
  refine doC_drawn 13 mo (by kernel_rfl) ?_
  simp only [List.take_succ_cons, List.take_zero, List.drop_succ_cons, List.drop_zero]
  refine doG_v (opV_loadA 8 ty23 rfl rfl rfl) rfl rfl rfl ?_
  refine doG_v (opV_move rfl) rfl rfl rfl ?_
  refine doG_v (opV_move rfl) rfl rfl rfl ?_
  refine doG_v (opV_indexAddr ar28 rfl rfl (by first | decide | omega) (by first | decide | omega)) rfl rfl rfl ?_
  refine doG_v (opV_indexAddr ar26 rfl rfl (by first | decide | omega) (by first | decide | omega)) rfl rfl rfl ?_
  refine doG_v (opV_loadA 2 ty23 rfl rfl rfl) rfl rfl rfl ?_
  refine doG_v (opV_move rfl) rfl rfl rfl ?_
  refine doG_v (opV_move rfl) rfl rfl rfl ?_
  refine doG_v (opV_indexAddr ar28 rfl rfl (by first | decide | omega) (by first | decide | omega)) rfl rfl rfl ?_
  refine doG_v (opV_indexAddr ar26 rfl rfl (by first | decide | omega) (by first | decide | omega)) rfl rfl rfl ?_
  refine doG_v (opV_loadA 3 ty23 rfl rfl rfl) rfl rfl rfl ?_
  refine doG_vg (F := iv) (opV_call en85 rfl (fun w _ => iMul _ _ _ _  w)) rfl rfl rfl ?_; intro r30_18 hr30_18
  refine doG_vg (F := iv) (opV_call en84 rfl (fun w _ => iAdd _ _ _ _  w)) rfl rfl rfl ?_; intro r31_18 hr31_18
  refine doG_nil ?_
  refine tail_nil ?_
  refine doL_store 8 ty23 rfl rfl rfl rfl rfl rfl rfl rfl ?_
  refine doL_nil ?_
  refine post_block_normal ?_
  refine post_then ?_
  refine doC_region ?_
  refine doL_v (opV_add rfl rfl (by first | exact i64_in ⟨by omega, by omega⟩ | rfl)) rfl rfl rfl ?_
  refine doL_v (opV_move rfl) rfl rfl rfl ?_
  refine doL_nil ?_
  refine post_rounds ?_
  refine doR_succ ?_
  refine doC_seq ?_
  refine doC_region ?_
  refine doL_v (opV_lss rfl rfl) rfl rfl rfl ?_
  refine doL_nil ?_
  refine post_then ?_
  refine doC_seq ?_
  refine doC_cond_f rfl (by decide) ?_
  refine doC_exit ?_
  refine post_then_exit ?_
  refine post_then_exit ?_
  refine post_block_exit ?_
  refine post_then ?_
  refine doC_keep (ks := [2, 3, 4, 5, 6, 7, 8, 9, 10, 13, 16]) rfl ?_
  refine doC_drawn 11 mo (by kernel_rfl) ?_
  simp only [List.take_succ_cons, List.take_zero, List.drop_succ_cons, List.drop_zero]
  refine doG_v (opV_move rfl) rfl rfl rfl ?_
  refine doG_v (opV_move rfl) rfl rfl rfl ?_
  refine doG_v (opV_fieldAddr fa23_0 rfl) rfl rfl rfl ?_
  refine doG_v (opV_load1 8 ty2 rfl rfl rfl) rfl rfl rfl ?_
  refine doG_vg (F := vI) (opV_call en89 rfl (fun w _ => mLimited _  w)) rfl rfl rfl ?_; intro r37_6 hr37_6
  refine doG_v (opV_fieldAddr fa23_1 rfl) rfl rfl rfl ?_
  refine doG_v (opV_load1 8 ty2 rfl rfl rfl) rfl rfl rfl ?_
  refine doG_vg (F := vI) (opV_call en89 rfl (fun w _ => mLimited _  w)) rfl rfl rfl ?_; intro r40_6 hr40_6
  refine doG_v (opV_build la23 rfl rfl) rfl rfl rfl ?_
  refine doG_v (opV_indexAddr ar28 rfl rfl (by first | decide | omega) (by first | decide | omega)) rfl rfl rfl ?_
  refine doG_v (opV_indexAddr ar26 rfl rfl (by first | decide | omega) (by first | decide | omega)) rfl rfl rfl ?_
  refine doG_nil ?_
  refine tail_nil ?_
  refine doL_store 5 ty23 rfl rfl rfl rfl rfl rfl rfl rfl ?_
  refine doL_nil ?_
  refine post_block_normal ?_
  refine post_then ?_
  refine doC_region ?_
  refine doL_v (opV_add rfl rfl (by first | exact i64_in ⟨by omega, by omega⟩ | rfl)) rfl rfl rfl ?_
  refine doL_v (opV_move rfl) rfl rfl rfl ?_
  refine doL_nil ?_
  refine post_rounds ?_
  refine doR_succ ?_
  refine doC_seq ?_
  refine doC_region ?_
  refine doL_v (opV_lss rfl rfl) rfl rfl rfl ?_
  refine doL_nil ?_
  refine post_then ?_
  refine doC_seq ?_
  refine doC_cond_f rfl (by decide) ?_
  refine doC_exit ?_
  refine post_then_exit ?_
  refine post_then_exit ?_
  refine post_block_exit ?_
  refine post_block_normal ?_
  refine post_then ?_
  refine doC_region ?_
  refine doL_v (opV_add rfl rfl (by first | exact i64_in ⟨by omega, by omega⟩ | rfl)) rfl rfl rfl ?_
  refine doL_v (opV_move rfl) rfl rfl rfl ?_
  refine doL_nil ?_
  refine post_rounds ?_
  refine doR_succ ?_
  refine doC_seq ?_
  refine doC_region ?_
  refine doL_v (opV_lss rfl rfl) rfl rfl rfl ?_
  refine doL_nil ?_
  refine post_then ?_
  refine doC_seq ?_
  refine doC_cond_t rfl (by decide) ?_
  refine doC_skip ?_
  refine post_then ?_
  refine doC_seq ?_
  refine doC_block ?_
  refine doC_seq ?_
  refine doC_region ?_
  refine doL_v (opV_move rfl) rfl rfl rfl ?_
  refine doL_v (opV_assign rfl) rfl rfl rfl ?_
  refine doL_nil ?_
  refine post_then ?_
  refine doC_seq ?_
  refine doC_region ?_
  refine doL_v (opV_move rfl) rfl rfl rfl ?_
  refine doL_nil ?_
  refine post_then ?_
  refine doC_block ?_
  refine doC_rounds 4 ?_
  refine doR_succ ?_
  refine doC_seq ?_
  refine doC_region ?_
  refine doL_v (opV_lss rfl rfl) rfl rfl rfl ?_
  refine doL_nil ?_
  refine post_then ?_
  refine doC_seq ?_
  refine doC_cond_t rfl (by decide) ?_
  refine doC_skip ?_
  refine post_then ?_
  refine doC_seq ?_
  refine doC_block ?_
  refine doC_seq ?_
  refine doC_region ?_
  refine doL_v (opV_move rfl) rfl rfl rfl ?_
  refine doL_v (opV_assign rfl) rfl rfl rfl ?_
  refine doL_nil ?_
  refine post_then ?_
  refine doC_seq ?_
  refine doC_keepH (ks := [2, 3, 4, 5]) rfl ?_
  refine doC_region ?_
  refine doL_alloc 8 ze23 rfl rfl rfl ?_; intro b8_7
  refine doL_nil ?_
  refine post_then ?_
  refine doC_seq ?_
  refine doC_seq ?_
  refine doC_region ?_
  refine doL_v (opV_move rfl) rfl rfl rfl ?_
  refine doL_nil ?_
  refine post_then ?_
  refine doC_block ?_
  refine doC_rounds 4 ?_
  refine doR_succ ?_
  refine doC_seq ?_
  refine doC_region ?_
  refine doL_v (opV_lss rfl rfl) rfl rfl rfl ?_
  refine doL_nil ?_
  refine post_then ?_
  refine doC_seq ?_
  refine doC_cond_t rfl (by decide) ?_
  refine doC_skip ?_
  refine post_then ?_
  refine doC_seq ?_
  refine doC_block ?_
  refine doC_seq ?_
  refine doC_region ?_
  refine doL_v (opV_move rfl) rfl rfl rfl ?_
  refine doL_v (opV_assign rfl) rfl rfl rfl ?_
  refine doL_nil ?_
  refine post_then ?_
  refine doC_keep (ks := [2, 3, 4, 5, 6, 7, 8, 9, 10, 13, 16]) rfl ?_
  refine doC_drawn 13 mo (by kernel_rfl) ?_
  simp only [List.take_succ_cons, List.take_zero, List.drop_succ_cons, List.drop_zero]
  refine doG_v (opV_loadA 8 ty23 rfl rfl rfl) rfl rfl rfl ?_
  refine doG_v (opV_move rfl) rfl rfl rfl ?_
  refine doG_v (opV_move rfl) rfl rfl rfl ?_
  refine doG_v (opV_indexAddr ar28 rfl rfl (by first | decide | omega) (by first | decide | omega)) rfl rfl rfl ?_
  refine doG_v (opV_indexAddr ar26 rfl rfl (by first | decide | omega) (by first | decide | omega)) rfl rfl rfl ?_
  refine doG_v (opV_loadA 2 ty23 rfl rfl rfl) rfl rfl rfl ?_
  refine doG_v (opV_move rfl) rfl rfl rfl ?_
  refine doG_v (opV_move rfl) rfl rfl rfl ?_
  refine doG_v (opV_indexAddr ar28 rfl rfl (by first | decide | omega) (by first | decide | omega)) rfl rfl rfl ?_
  refine doG_v (opV_indexAddr ar26 rfl rfl (by first | decide | omega) (by first | decide | omega)) rfl rfl rfl ?_
  refine doG_v (opV_loadA 3 ty23 rfl rfl rfl) rfl rfl rfl ?_
  refine doG_vg (F := iv) (opV_call en85 rfl (fun w _ => iMul _ _ _ _  w)) rfl rfl rfl ?_; intro r30_19 hr30_19
  refine doG_vg (F := iv) (opV_call en84 rfl (fun w _ => iAdd _ _ _ _  w)) rfl rfl rfl ?_; intro r31_19 hr31_19
  refine doG_nil ?_
  refine tail_nil ?_
  refine doL_store 8 ty23 rfl rfl rfl rfl rfl rfl rfl rfl ?_
  refine doL_nil ?_
  refine post_block_normal ?_
  refine post_then ?_
  refine doC_region ?_
  refine doL_v (opV_add rfl rfl (by first | exact i64_in ⟨by omega, by omega⟩ | rfl)) rfl rfl rfl ?_
  refine doL_v (opV_move rfl) rfl rfl rfl ?_
  refine doL_nil ?_
  refine post_rounds ?_
  refine doR_succ ?_
  refine doC_seq ?_
  refine doC_region ?_
  refine doL_v (opV_lss rfl rfl) rfl rfl rfl ?_
  refine doL_nil ?_
  refine post_then ?_
  refine doC_seq ?_
  refine doC_cond_t rfl (by decide) ?_
  refine doC_skip ?_
  refine post_then ?_
  refine doC_seq ?_
  refine doC_block ?_
  refine doC_seq ?_
  refine doC_region ?_
  refine doL_v (opV_move rfl) rfl rfl rfl ?_
  refine doL_v (opV_assign rfl) rfl rfl rfl ?_
  refine doL_nil ?_
  refine post_then ?_
  refine doC_keep (ks := [2, 3, 4, 5, 6, 7, 8, 9, 10, 13, 16]) rfl ?_
  refine doC_drawn 13 mo (by kernel_rfl) ?_
  simp only [List.take_succ_cons, List.take_zero, List.drop_succ_cons, List.drop_zero]
  refine doG_v (opV_loadA 8 ty23 rfl rfl rfl) rfl rfl rfl ?_
  refine doG_v (opV_move rfl) rfl rfl rfl ?_
  refine doG_v (opV_move rfl) rfl rfl rfl ?_
  refine doG_v (opV_indexAddr ar28 rfl rfl (by first | decide | omega) (by first | decide | omega)) rfl rfl rfl ?_
  refine doG_v (opV_indexAddr ar26 rfl rfl (by first | decide | omega) (by first | decide | omega)) rfl rfl rfl ?_
  refine doG_v (opV_loadA 2 ty23 rfl rfl rfl) rfl rfl rfl ?_
  refine doG_v (opV_move rfl) rfl rfl rfl ?_
  refine doG_v (opV_move rfl) rfl rfl rfl ?_
  refine doG_v (opV_indexAddr ar28 rfl rfl (by first | decide | omega) (by first | decide | omega)) rfl rfl rfl ?_
  refine doG_v (opV_indexAddr ar26 rfl rfl (by first | decide | omega) (by first | decide | omega)) rfl rfl rfl ?_
  refine doG_v (opV_loadA 3 ty23 rfl rfl rfl) rfl rfl rfl ?_
  refine doG_vg (F := iv) (opV_call en85 rfl (fun w _ => iMul _ _ _ _  w)) rfl rfl rfl ?_; intro r30_20 hr30_20
  refine doG_vg (F := iv) (opV_call en84 rfl (fun w _ => iAdd _ _ _ _  w)) rfl rfl rfl ?_; intro r31_20 hr31_20
  refine doG_nil ?_
  refine tail_nil ?_
  refine doL_store 8 ty23 rfl rfl rfl rfl rfl rfl rfl rfl ?_
  refine doL_nil ?_
  refine post_block_normal ?_
  refine post_then ?_
  refine doC_region ?_
  refine doL_v (opV_add rfl rfl (by first | exact i64_in ⟨by omega, by omega⟩ | rfl)) rfl rfl rfl ?_
  refine doL_v (opV_move rfl) rfl rfl rfl ?_
  refine doL_nil ?_
  refine post_rounds ?_
  refine doR_succ ?_
  refine doC_seq ?_
  refine doC_region ?_
  refine doL_v (opV_lss rfl rfl) rfl rfl rfl ?_
  refine doL_nil ?_
  refine post_then ?_
  refine doC_seq ?_
  refine doC_cond_t rfl (by decide) ?_
  refine doC_skip ?_
  refine post_then ?_
  refine doC_seq ?_
  refine doC_block ?_
  refine doC_seq ?_
  refine doC_region ?_
  refine doL_v (opV_move rfl) rfl rfl rfl ?_
  refine doL_v (opV_assign rfl) rfl rfl rfl ?_
  refine doL_nil ?_
  refine post_then ?_
  refine doC_keep (ks := [2, 3, 4, 5, 6, 7, 8, 9, 10, 13, 16]) rfl ?_
  refine doC_drawn 13 mo (by kernel_rfl) ?_
  simp only [List.take_succ_cons, List.take_zero, List.drop_succ_cons, List.drop_zero]
  refine doG_v (opV_loadA 8 ty23 rfl rfl rfl) rfl rfl rfl ?_
  refine doG_v (opV_move rfl) rfl rfl rfl ?_
  refine doG_v (opV_move rfl) rfl rfl rfl ?_
  refine doG_v (opV_indexAddr ar28 rfl rfl (by first | decide | omega) (by first | decide | omega)) rfl rfl rfl ?_
  refine doG_v (opV_indexAddr ar26 rfl rfl (by first | decide | omega) (by first | decide | omega)) rfl rfl rfl ?_
  refine doG_v (opV_loadA 2 ty23 rfl rfl rfl) rfl rfl rfl ?_
  refine doG_v (opV_move rfl) rfl rfl rfl ?_
  refine doG_v (opV_move rfl) rfl rfl rfl ?_
  refine doG_v (opV_indexAddr ar28 rfl rfl (by first | decide | omega) (by first | decide | omega)) rfl rfl rfl ?_
  refine doG_v (opV_indexAddr ar26 rfl rfl (by first | decide | omega) (by first | decide | omega)) rfl rfl rfl ?_
  refine doG_v (opV_loadA 3 ty23 rfl rfl rfl) rfl rfl rfl ?_
  refine doG_vg (F := iv) (opV_call en85 rfl (fun w _ => iMul _ _ _ _  w)) rfl rfl rfl ?_; intro r30_21 hr30_21
  refine doG_vg (F := iv) (opV_call en84 rfl (fun w _ => iAdd _ _ _ _  w)) rfl rfl rfl ?_; intro r31_21 hr31_21
  refine doG_nil ?_
  refine tail_nil ?_
  refine doL_store 8 ty23 rfl rfl rfl rfl rfl rfl rfl rfl ?_
  refine doL_nil ?_
  refine post_block_normal ?_
  refine post_then ?_
  refine doC_region ?_
  refine doL_v (opV_add rfl rfl (by first | exact i64_in ⟨by omega, by omega⟩ | rfl)) rfl rfl rfl ?_
  refine doL_v (opV_move rfl) rfl rfl rfl ?_
  refine doL_nil ?_
  refine post_rounds ?_
  refine doR_succ ?_
  refine doC_seq ?_
  refine doC_region ?_
  refine doL_v (opV_lss rfl rfl) rfl rfl rfl ?_
  refine doL_nil ?_
  refine post_then ?_
  refine doC_seq ?_
  refine doC_cond_f rfl (by decide) ?_
  refine doC_exit ?_
  refine post_then_exit ?_
  refine post_then_exit ?_
  refine post_block_exit ?_
  refine post_then ?_
  refine doC_keep (ks := [2, 3, 4, 5, 6, 7, 8, 9, 10, 13, 16]) rfl ?_
  refine doC_drawn 11 mo (by kernel_rfl) ?_
  simp only [List.take_succ_cons, List.take_zero, List.drop_succ_cons, List.drop_zero]
  refine doG_v (opV_move rfl) rfl rfl rfl ?_
  refine doG_v (opV_move rfl) rfl rfl rfl ?_
  refine doG_v (opV_fieldAddr fa23_0 rfl) rfl rfl rfl ?_
  refine doG_v (opV_load1 8 ty2 rfl rfl rfl) rfl rfl rfl ?_
  refine doG_vg (F := vI) (opV_call en89 rfl (fun w _ => mLimited _  w)) rfl rfl rfl ?_; intro r37_7 hr37_7
  refine doG_v (opV_fieldAddr fa23_1 rfl) rfl rfl rfl ?_
  refine doG_v (opV_load1 8 ty2 rfl rfl rfl) rfl rfl rfl ?_
  refine doG_vg (F := vI) (opV_call en89 rfl (fun w _ => mLimited _  w)) rfl rfl rfl ?_; intro r40_7 hr40_7
  refine doG_v (opV_build la23 rfl rfl) rfl rfl rfl ?_
  refine doG_v (opV_indexAddr ar28 rfl rfl (by first | decide | omega) (by first | decide | omega)) rfl rfl rfl ?_
  refine doG_v (opV_indexAddr ar26 rfl rfl (by first | decide | omega) (by first | decide | omega)) rfl rfl rfl ?_
  refine doG_nil ?_
  refine tail_nil ?_
  refine doL_store 5 ty23 rfl rfl rfl rfl rfl rfl rfl rfl ?_
  refine doL_nil ?_
  refine post_block_normal ?_
  refine post_then ?_
  refine doC_region ?_
  refine doL_v (opV_add rfl rfl (by first | exact i64_in ⟨by omega, by omega⟩ | rfl)) rfl rfl rfl ?_
  refine doL_v (opV_move rfl) rfl rfl rfl ?_
  refine doL_nil ?_
  refine post_rounds ?_
  refine doR_succ ?_
  refine doC_seq ?_
  refine doC_region ?_
  refine doL_v (opV_lss rfl rfl) rfl rfl rfl ?_
  refine doL_nil ?_
  refine post_then ?_
  refine doC_seq ?_
  refine doC_cond_t rfl (by decide) ?_
  refine doC_skip ?_
  refine post_then ?_
  refine doC_seq ?_
  refine doC_block ?_
  refine doC_seq ?_
  refine doC_region ?_
  refine doL_v (opV_move rfl) rfl rfl rfl ?_
  refine doL_v (opV_assign rfl) rfl rfl rfl ?_
  refine doL_nil ?_
  refine post_then ?_
  refine doC_seq ?_
  refine doC_keepH (ks := [2, 3, 4, 5]) rfl ?_
  refine doC_region ?_
  refine doL_alloc 8 ze23 rfl rfl rfl ?_; intro b8_8
  refine doL_nil ?_
  refine post_then ?_
  refine doC_seq ?_
  refine doC_seq ?_
  refine doC_region ?_
  refine doL_v (opV_move rfl) rfl rfl rfl ?_
  refine doL_nil ?_
  refine post_then ?_
  refine doC_block ?_
  refine doC_rounds 4 ?_
  refine doR_succ ?_
  refine doC_seq ?_
  refine doC_region ?_
  refine doL_v (opV_lss rfl rfl) rfl rfl rfl ?_
  refine doL_nil ?_
  refine post_then ?_
  refine doC_seq ?_
  refine doC_cond_t rfl (by decide) ?_
  refine doC_skip ?_
  refine post_then ?_
  refine doC_seq ?_
  refine doC_block ?_
  refine doC_seq ?_
  refine doC_region ?_
  refine doL_v (opV_move rfl) rfl rfl rfl ?_
  refine doL_v (opV_assign rfl) rfl rfl rfl ?_
  refine doL_nil ?_
  refine post_then ?_
  refine doC_keep (ks := [2, 3, 4, 5, 6, 7, 8, 9, 10, 13, 16]) rfl ?_
  refine doC_drawn 13 mo (by kernel_rfl) ?_
  simp only [List.take_succ_cons, List.take_zero, List.drop_succ_cons, List.drop_zero]
  refine doG_v (opV_loadA 8 ty23 rfl rfl rfl) rfl rfl rfl ?_
  refine doG_v (opV_move rfl) rfl rfl rfl ?_
  refine doG_v (opV_move rfl) rfl rfl rfl ?_
  refine doG_v (opV_indexAddr ar28 rfl rfl (by first | decide | omega) (by first | decide | omega)) rfl rfl rfl ?_
  refine doG_v (opV_indexAddr ar26 rfl rfl (by first | decide | omega) (by first | decide | omega)) rfl rfl rfl ?_
  refine doG_v (opV_loadA 2 ty23 rfl rfl rfl) rfl rfl rfl ?_
  refine doG_v (opV_move rfl) rfl rfl rfl ?_
  refine doG_v (opV_move rfl) rfl rfl rfl ?_
  refine doG_v (opV_indexAddr ar28 rfl rfl (by first | decide | omega) (by first | decide | omega)) rfl rfl rfl ?_
  refine doG_v (opV_indexAddr ar26 rfl rfl (by first | decide | omega) (by first | decide | omega)) rfl rfl rfl ?_
  refine doG_v (opV_loadA 3 ty23 rfl rfl rfl) rfl rfl rfl ?_
  refine doG_vg (F := iv) (opV_call en85 rfl (fun w _ => iMul _ _ _ _  w)) rfl rfl rfl ?_; intro r30_22 hr30_22
  refine doG_vg (F := iv) (opV_call en84 rfl (fun w _ => iAdd _ _ _ _  w)) rfl rfl rfl ?_; intro r31_22 hr31_22
  refine doG_nil ?_
  refine tail_nil ?_
  refine doL_store 8 ty23 rfl rfl rfl rfl rfl rfl rfl rfl ?_
  refine doL_nil ?_
  refine post_block_normal ?_
  refine post_then ?_
  refine doC_region ?_
  refine doL_v (opV_add rfl rfl (by first | exact i64_in ⟨by omega, by omega⟩ | rfl)) rfl rfl rfl ?_
  refine doL_v (opV_move rfl) rfl rfl rfl ?_
  refine doL_nil ?_
  refine post_rounds ?_
  refine doR_succ ?_
  refine doC_seq ?_
  refine doC_region ?_
  refine doL_v (opV_lss rfl rfl) rfl rfl rfl ?_
  refine doL_nil ?_
  refine post_then ?_
  refine doC_seq ?_
  refine doC_cond_t rfl (by decide) ?_
  refine doC_skip ?_
  refine post_then ?_
  refine doC_seq ?_
  refine doC_block ?_
  refine doC_seq ?_
  refine doC_region ?_
  refine doL_v (opV_move rfl) rfl rfl rfl ?_
  refine doL_v (opV_assign rfl) rfl rfl rfl ?_
  refine doL_nil ?_
  refine post_then ?_
  refine doC_keep (ks := [2, 3, 4, 5, 6, 7, 8, 9, 10, 13, 16]) rfl ?_
  refine doC_drawn 13 mo (by kernel_rfl) ?_
  simp only [List.take_succ_cons, List.take_zero, List.drop_succ_cons, List.drop_zero]
  refine doG_v (opV_loadA 8 ty23 rfl rfl rfl) rfl rfl rfl ?_
  refine doG_v (opV_move rfl) rfl rfl rfl ?_
  refine doG_v (opV_move rfl) rfl rfl rfl ?_
  refine doG_v (opV_indexAddr ar28 rfl rfl (by first | decide | omega) (by first | decide | omega)) rfl rfl rfl ?_
  refine doG_v (opV_indexAddr ar26 rfl rfl (by first | decide | omega) (by first | decide | omega)) rfl rfl rfl ?_
  refine doG_v (opV_loadA 2 ty23 rfl rfl rfl) rfl rfl rfl ?_
  refine doG_v (opV_move rfl) rfl rfl rfl ?_
  refine doG_v (opV_move rfl) rfl rfl rfl ?_
  refine doG_v (opV_indexAddr ar28 rfl rfl (by first | decide | omega) (by first | decide | omega)) rfl rfl rfl ?_
  refine doG_v (opV_indexAddr ar26 rfl rfl (by first | decide | omega) (by first | decide | omega)) rfl rfl rfl ?_
  refine doG_v (opV_loadA 3 ty23 rfl rfl rfl) rfl rfl rfl ?_
  refine doG_vg (F := iv) (opV_call en85 rfl (fun w _ => iMul _ _ _ _  w)) rfl rfl rfl ?_; intro r30_23 hr30_23
  refine doG_vg (F := iv) (opV_call en84 rfl (fun w _ => iAdd _ _ _ _  w)) rfl rfl rfl ?_; intro r31_23 hr31_23
  refine doG_nil ?_
  refine tail_nil ?_
  refine doL_store 8 ty23 rfl rfl rfl rfl rfl rfl rfl rfl ?_
  refine doL_nil ?_
  refine post_block_normal ?_
  refine post_then ?_
  refine doC_region ?_
  refine doL_v (opV_add rfl rfl (by first | exact i64_in ⟨by omega, by omega⟩ | rfl)) rfl rfl rfl ?_
  refine doL_v (opV_move rfl) rfl rfl rfl ?_
  refine doL_nil ?_
  refine post_rounds ?_
  refine doR_succ ?_
  refine doC_seq ?_
  refine doC_region ?_
  refine doL_v (opV_lss rfl rfl) rfl rfl rfl ?_
  refine doL_nil ?_
  refine post_then ?_
  refine doC_seq ?_
  refine doC_cond_t rfl (by decide) ?_
  refine doC_skip ?_
  refine post_then ?_
  refine doC_seq ?_
  refine doC_block ?_
  refine doC_seq ?_
  refine doC_region ?_
  refine doL_v (opV_move rfl) rfl rfl rfl ?_
  refine doL_v (opV_assign rfl) rfl rfl rfl ?_
  refine doL_nil ?_
  refine post_then ?_
  refine doC_keep (ks := [2, 3, 4, 5, 6, 7, 8, 9, 10, 13, 16]) rfl ?_
  refine doC_drawn 13 mo (by kernel_rfl) ?_
  simp only [List.take_succ_cons, List.take_zero, List.drop_succ_cons, List.drop_zero]
  refine doG_v (opV_loadA 8 ty23 rfl rfl rfl) rfl rfl rfl ?_
  refine doG_v (opV_move rfl) rfl rfl rfl ?_
  refine doG_v (opV_move rfl) rfl rfl rfl ?_
  refine doG_v (opV_indexAddr ar28 rfl rfl (by first | decide | omega) (by first | decide | omega)) rfl rfl rfl ?_
  refine doG_v (opV_indexAddr ar26 rfl rfl (by first | decide | omega) (by first | decide | omega)) rfl rfl rfl ?_
  refine doG_v (opV_loadA 2 ty23 rfl rfl rfl) rfl rfl rfl ?_
  refine doG_v (opV_move rfl) rfl rfl rfl ?_
  refine doG_v (opV_move rfl) rfl rfl rfl ?_
  refine doG_v (opV_indexAddr ar28 rfl rfl (by first | decide | omega) (by first | decide | omega)) rfl rfl rfl ?_
  refine doG_v (opV_indexAddr ar26 rfl rfl (by first | decide | omega) (by first | decide | omega)) rfl rfl rfl ?_
  refine doG_v (opV_loadA 3 ty23 rfl rfl rfl) rfl rfl rfl ?_
  refine doG_vg (F := iv) (opV_call en85 rfl (fun w _ => iMul _ _ _ _  w)) rfl rfl rfl ?_; intro r30_24 hr30_24
  refine doG_vg (F := iv) (opV_call en84 rfl (fun w _ => iAdd _ _ _ _  w)) rfl rfl rfl ?_; intro r31_24 hr31_24
  refine doG_nil ?_
  refine tail_nil ?_
  refine doL_store 8 ty23 rfl rfl rfl rfl rfl rfl rfl rfl ?_
  refine doL_nil ?_
  refine post_block_normal ?_
  refine post_then ?_
  refine doC_region ?_
  refine doL_v (opV_add rfl rfl (by first | exact i64_in ⟨by omega, by omega⟩ | rfl)) rfl rfl rfl ?_
  refine doL_v (opV_move rfl) rfl rfl rfl ?_
  refine doL_nil ?_
  refine post_rounds ?_
  refine doR_succ ?_
  refine doC_seq ?_
  refine doC_region ?_
  refine doL_v (opV_lss rfl rfl) rfl rfl rfl ?_
  refine doL_nil ?_
  refine post_then ?_
  refine doC_seq ?_
  refine doC_cond_f rfl (by decide) ?_
  refine doC_exit ?_
  refine post_then_exit ?_
  refine post_then_exit ?_
  refine post_block_exit ?_
  refine post_then ?_
  refine doC_keep (ks := [2, 3, 4, 5, 6, 7, 8, 9, 10, 13, 16]) rfl ?_
  refine doC_drawn 11 mo (by kernel_rfl) ?_
  simp only [List.take_succ_cons, List.take_zero, List.drop_succ_cons, List.drop_zero]
  refine doG_v (opV_move rfl) rfl rfl rfl ?_
  refine doG_v (opV_move rfl) rfl rfl rfl ?_
  refine doG_v (opV_fieldAddr fa23_0 rfl) rfl rfl rfl ?_
  refine doG_v (opV_load1 8 ty2 rfl rfl rfl) rfl rfl rfl ?_
  refine doG_vg (F := vI) (opV_call en89 rfl (fun w _ => mLimited _  w)) rfl rfl rfl ?_; intro r37_8 hr37_8
  refine doG_v (opV_fieldAddr fa23_1 rfl) rfl rfl rfl ?_
  refine doG_v (opV_load1 8 ty2 rfl rfl rfl) rfl rfl rfl ?_
  refine doG_vg (F := vI) (opV_call en89 rfl (fun w _ => mLimited _  w)) rfl rfl rfl ?_; intro r40_8 hr40_8
  refine doG_v (opV_build la23 rfl rfl) rfl rfl rfl ?_
  refine doG_v (opV_indexAddr ar28 rfl rfl (by first | decide | omega) (by first | decide | omega)) rfl rfl rfl ?_
  refine doG_v (opV_indexAddr ar26 rfl rfl (by first | decide | omega) (by first | decide | omega)) rfl rfl rfl ?_
  refine doG_nil ?_
  refine tail_nil ?_
  refine doL_store 5 ty23 rfl rfl rfl rfl rfl rfl rfl rfl ?_
  refine doL_nil ?_
  refine post_block_normal ?_
  refine post_then ?_
  refine doC_region ?_
  refine doL_v (opV_add rfl rfl (by first | exact i64_in ⟨by omega, by omega⟩ | rfl)) rfl rfl rfl ?_
  refine doL_v (opV_move rfl) rfl rfl rfl ?_
  refine doL_nil ?_
  refine post_rounds ?_
  refine doR_succ ?_
  refine doC_seq ?_
  refine doC_region ?_
  refine doL_v (opV_lss rfl rfl) rfl rfl rfl ?_
  refine doL_nil ?_
  refine post_then ?_
  refine doC_seq ?_
  refine doC_cond_t rfl (by decide) ?_
  refine doC_skip ?_
  refine post_then ?_
  refine doC_seq ?_
  refine doC_block ?_
  refine doC_seq ?_
  refine doC_region ?_
  refine doL_v (opV_move rfl) rfl rfl rfl ?_
  refine doL_v (opV_assign rfl) rfl rfl rfl ?_
  refine doL_nil ?_
  refine post_then ?_
  refine doC_seq ?_
  refine doC_keepH (ks := [2, 3, 4, 5]) rfl ?_
  refine doC_region ?_
  refine doL_alloc 8 ze23 rfl rfl rfl ?_; intro b8_9
  refine doL_nil ?_
  refine post_then ?_
  refine doC_seq ?_
  refine doC_seq ?_
  refine doC_region ?_
  refine doL_v (opV_move rfl) rfl rfl rfl ?_
  refine doL_nil ?_
  refine post_then ?_
  refine doC_block ?_
  refine doC_rounds 4 ?_
  refine doR_succ ?_
  refine doC_seq ?_
  refine doC_region ?_
  refine doL_v (opV_lss rfl rfl) rfl rfl rfl ?_
  refine doL_nil ?_
  refine post_then ?_
  refine doC_seq ?_
  refine doC_cond_t rfl (by decide) ?_
  refine doC_skip ?_
  refine post_then ?_
  refine doC_seq ?_
  refine doC_block ?_
  refine doC_seq ?_
  refine doC_region ?_
  refine doL_v (opV_move rfl) rfl rfl rfl ?_
  refine doL_v (opV_assign rfl) rfl rfl rfl ?_
  refine doL_nil ?_
  refine post_then ?_
  refine doC_keep (ks := [2, 3, 4, 5, 6, 7, 8, 9, 10, 13, 16]) rfl ?_
  refine doC_drawn 13 mo (by kernel_rfl) ?_
  simp only [List.take_succ_cons, List.take_zero, List.drop_succ_cons, List.drop_zero]
  refine doG_v (opV_loadA 8 ty23 rfl rfl rfl) rfl rfl rfl ?_
  refine doG_v (opV_move rfl) rfl rfl rfl ?_
  refine doG_v (opV_move rfl) rfl rfl rfl ?_
  refine doG_v (opV_indexAddr ar28 rfl rfl (by first | decide | omega) (by first | decide | omega)) rfl rfl rfl ?_
  refine doG_v (opV_indexAddr ar26 rfl rfl (by first | decide | omega) (by first | decide | omega)) rfl rfl rfl ?_
  refine doG_v (opV_loadA 2 ty23 rfl rfl rfl) rfl rfl rfl ?_
  refine doG_v (opV_move rfl) rfl rfl rfl ?_
  refine doG_v (opV_move rfl) rfl rfl rfl ?_
  refine doG_v (opV_indexAddr ar28 rfl rfl (by first | decide | omega) (by first | decide | omega)) rfl rfl rfl ?_
  refine doG_v (opV_indexAddr ar26 rfl rfl (by first | decide | omega) (by first | decide | omega)) rfl rfl rfl ?_
  refine doG_v (opV_loadA 3 ty23 rfl rfl rfl) rfl rfl rfl ?_
  refine doG_vg (F := iv) (opV_call en85 rfl (fun w _ => iMul _ _ _ _  w)) rfl rfl rfl ?_; intro r30_25 hr30_25
  refine doG_vg (F := iv) (opV_call en84 rfl (fun w _ => iAdd _ _ _ _  w)) rfl rfl rfl ?_; intro r31_25 hr31_25
  refine doG_nil ?_
  refine tail_nil ?_
  refine doL_store 8 ty23 rfl rfl rfl rfl rfl rfl rfl rfl ?_
  refine doL_nil ?_
  refine post_block_normal ?_
  refine post_then ?_
  refine doC_region ?_
  refine doL_v (opV_add rfl rfl (by first | exact i64_in ⟨by omega, by omega⟩ | rfl)) rfl rfl rfl ?_
  refine doL_v (opV_move rfl) rfl rfl rfl ?_
  refine doL_nil ?_
  refine post_rounds ?_
  refine doR_succ ?_
  refine doC_seq ?_
  refine doC_region ?_
  refine doL_v (opV_lss rfl rfl) rfl rfl rfl ?_
  refine doL_nil ?_
  refine post_then ?_
  refine doC_seq ?_
  refine doC_cond_t rfl (by decide) ?_
  refine doC_skip ?_
  refine post_then ?_
  refine doC_seq ?_
  refine doC_block ?_
  refine doC_seq ?_
  refine doC_region ?_
  refine doL_v (opV_move rfl) rfl rfl rfl ?_
  refine doL_v (opV_assign rfl) rfl rfl rfl ?_
  refine doL_nil ?_
  refine post_then ?_
  refine doC_keep (ks := [2, 3, 4, 5, 6, 7, 8, 9, 10, 13, 16]) rfl ?_
  refine doC_drawn 13 mo (by kernel_rfl) ?_
  simp only [List.take_succ_cons, List.take_zero, List.drop_succ_cons, List.drop_zero]
  refine doG_v (opV_loadA 8 ty23 rfl rfl rfl) rfl rfl rfl ?_
  refine doG_v (opV_move rfl) rfl rfl rfl ?_
  refine doG_v (opV_move rfl) rfl rfl rfl ?_
  refine doG_v (opV_indexAddr ar28 rfl rfl (by first | decide | omega) (by first | decide | omega)) rfl rfl rfl ?_
  refine doG_v (opV_indexAddr ar26 rfl rfl (by first | decide | omega) (by first | decide | omega)) rfl rfl rfl ?_
  refine doG_v (opV_loadA 2 ty23 rfl rfl rfl) rfl rfl rfl ?_
  refine doG_v (opV_move rfl) rfl rfl rfl ?_
  refine doG_v (opV_move rfl) rfl rfl rfl ?_
  refine doG_v (opV_indexAddr ar28 rfl rfl (by first | decide | omega) (by first | decide | omega)) rfl rfl rfl ?_
  refine doG_v (opV_indexAddr ar26 rfl rfl (by first | decide | omega) (by first | decide | omega)) rfl rfl rfl ?_
  refine doG_v (opV_loadA 3 ty23 rfl rfl rfl) rfl rfl rfl ?_
  refine doG_vg (F := iv) (opV_call en85 rfl (fun w _ => iMul _ _ _ _  w)) rfl rfl rfl ?_; intro r30_26 hr30_26
  refine doG_vg (F := iv) (opV_call en84 rfl (fun w _ => iAdd _ _ _ _  w)) rfl rfl rfl ?_; intro r31_26 hr31_26
  refine doG_nil ?_
  refine tail_nil ?_
  refine doL_store 8 ty23 rfl rfl rfl rfl rfl rfl rfl rfl ?_
  refine doL_nil ?_
  refine post_block_normal ?_
  refine post_then ?_
  refine doC_region ?_
  refine doL_v (opV_add rfl rfl (by first | exact i64_in ⟨by omega, by omega⟩ | rfl)) rfl rfl rfl ?_
  refine doL_v (opV_move rfl) rfl rfl rfl ?_
  refine doL_nil ?_
  refine post_rounds ?_
  refine doR_succ ?_
  refine doC_seq ?_
  refine doC_region ?_
  refine doL_v (opV_lss rfl rfl) rfl rfl rfl ?_
  refine doL_nil ?_
  refine post_then ?_
  refine doC_seq ?_
  refine doC_cond_t rfl (by decide) ?_
  refine doC_skip ?_
  refine post_then ?_
  refine doC_seq ?_
  refine doC_block ?_
  refine doC_seq ?_
  refine doC_region ?_
  refine doL_v (opV_move rfl) rfl rfl rfl ?_
  refine doL_v (opV_assign rfl) rfl rfl rfl ?_
  refine doL_nil ?_
  refine post_then ?_
  refine doC_keep (ks := [2, 3, 4, 5, 6, 7, 8, 9, 10, 13, 16]) rfl ?_
  refine doC_drawn 13 mo (by kernel_rfl) ?_
  simp only [List.take_succ_cons, List.take_zero, List.drop_succ_cons, List.drop_zero]
  refine doG_v (opV_loadA 8 ty23 rfl rfl rfl) rfl rfl rfl ?_
  refine doG_v (opV_move rfl) rfl rfl rfl ?_
  refine doG_v (opV_move rfl) rfl rfl rfl ?_
  refine doG_v (opV_indexAddr ar28 rfl rfl (by first | decide | omega) (by first | decide | omega)) rfl rfl rfl ?_
  refine doG_v (opV_indexAddr ar26 rfl rfl (by first | decide | omega) (by first | decide | omega)) rfl rfl rfl ?_
  refine doG_v (opV_loadA 2 ty23 rfl rfl rfl) rfl rfl rfl ?_
  refine doG_v (opV_move rfl) rfl rfl rfl ?_
  refine doG_v (opV_move rfl) rfl rfl rfl ?_
  refine doG_v (opV_indexAddr ar28 rfl rfl (by first | decide | omega) (by first | decide | omega)) rfl rfl rfl ?_
  refine doG_v (opV_indexAddr ar26 rfl rfl (by first | decide | omega) (by first | decide | omega)) rfl rfl rfl ?_
  refine doG_v (opV_loadA 3 ty23 rfl rfl rfl) rfl rfl rfl ?_
  refine doG_vg (F := iv) (opV_call en85 rfl (fun w _ => iMul _ _ _ _  w)) rfl rfl rfl ?_; intro r30_27 hr30_27
  refine doG_vg (F := iv) (opV_call en84 rfl (fun w _ => iAdd _ _ _ _  w)) rfl rfl rfl ?_; intro r31_27 hr31_27
  refine doG_nil ?_
  refine tail_nil ?_
  refine doL_store 8 ty23 rfl rfl rfl rfl rfl rfl rfl rfl ?_
  refine doL_nil ?_
  refine post_block_normal ?_
  refine post_then ?_
  refine doC_region ?_
  refine doL_v (opV_add rfl rfl (by first | exact i64_in ⟨by omega, by omega⟩ | rfl)) rfl rfl rfl ?_
  refine doL_v (opV_move rfl) rfl rfl rfl ?_
  refine doL_nil ?_
  refine post_rounds ?_
  refine doR_succ ?_
  refine doC_seq ?_
  refine doC_region ?_
  refine doL_v (opV_lss rfl rfl) rfl rfl rfl ?_
  refine doL_nil ?_
  refine post_then ?_
  refine doC_seq ?_
  refine doC_cond_f rfl (by decide) ?_
  refine doC_exit ?_
  refine post_then_exit ?_
  refine post_then_exit ?_
  refine post_block_exit ?_
  refine post_then ?_
  refine doC_keep (ks := [2, 3, 4, 5, 6, 7, 8, 9, 10, 13, 16]) rfl ?_
  refine doC_drawn 11 mo (by kernel_rfl) ?_
  simp only [List.take_succ_cons, List.take_zero, List.drop_succ_cons, List.drop_zero]
  refine doG_v (opV_move rfl) rfl rfl rfl ?_
  refine doG_v (opV_move rfl) rfl rfl rfl ?_
  refine doG_v (opV_fieldAddr fa23_0 rfl) rfl rfl rfl ?_
  refine doG_v (opV_load1 8 ty2 rfl rfl rfl) rfl rfl rfl ?_
  refine doG_vg (F := vI) (opV_call en89 rfl (fun w _ => mLimited _  w)) rfl rfl rfl ?_; intro r37_9 hr37_9
  refine doG_v (opV_fieldAddr fa23_1 rfl) rfl rfl rfl ?_
  refine doG_v (opV_load1 8 ty2 rfl rfl rfl) rfl rfl rfl ?_
  refine doG_vg (F := vI) (opV_call en89 rfl (fun w _ => mLimited _  w)) rfl rfl rfl ?_; intro r40_9 hr40_9
  refine doG_v (opV_build la23 rfl rfl) rfl rfl rfl ?_
  refine doG_v (opV_indexAddr ar28 rfl rfl (by first | decide | omega) (by first | decide | omega)) rfl rfl rfl ?_
  refine doG_v (opV_indexAddr ar26 rfl rfl (by first | decide | omega) (by first | decide | omega)) rfl rfl rfl ?_
  refine doG_nil ?_
  refine tail_nil ?_
  refine doL_store 5 ty23 rfl rfl rfl rfl rfl rfl rfl rfl ?_
  refine doL_nil ?_
  refine post_block_normal ?_
  refine post_then ?_
  refine doC_region ?_
  refine doL_v (opV_add rfl rfl (by first | exact i64_in ⟨by omega, by omega⟩ | rfl)) rfl rfl rfl ?_
  refine doL_v (opV_move rfl) rfl rfl rfl ?_
  refine doL_nil ?_
  refine post_rounds ?_
  refine doR_succ ?_
  refine doC_seq ?_
  refine doC_region ?_
  refine doL_v (opV_lss rfl rfl) rfl rfl rfl ?_
  refine doL_nil ?_
  refine post_then ?_
  refine doC_seq ?_
  refine doC_cond_f rfl (by decide) ?_
  refine doC_exit ?_
  refine post_then_exit ?_
  refine post_then_exit ?_
  refine post_block_exit ?_
  refine post_block_normal ?_
  refine post_then ?_
  refine doC_region ?_
  refine doL_v (opV_add rfl rfl (by first | exact i64_in ⟨by omega, by omega⟩ | rfl)) rfl rfl rfl ?_
  refine doL_v (opV_move rfl) rfl rfl rfl ?_
  refine doL_nil ?_
  refine post_rounds ?_
  refine doR_succ ?_
  refine doC_seq ?_
  refine doC_region ?_
  refine doL_v (opV_lss rfl rfl) rfl rfl rfl ?_
  refine doL_nil ?_
  refine post_then ?_
  refine doC_seq ?_
  refine doC_cond_f rfl (by decide) ?_
  refine doC_exit ?_
  refine post_then_exit ?_
  refine post_then_exit ?_
  refine post_block_exit ?_
  refine post_then ?_
  refine doC_seq ?_
  refine doC_region ?_
  refine doL_v (opV_loadA 5 ty28 rfl rfl rfl) rfl rfl rfl ?_
  refine doL_store 4 ty28 rfl rfl rfl rfl rfl rfl rfl rfl ?_
  refine doL_nil ?_
  refine post_then ?_
  refine doC_ret ?_
  refine post_rets (rs := [.cell 4 28]) rfl (resC (resIs_cell 4 rfl rfl ty28 rfl) (resN)) (congrArg (m3) (?_ : ⟨⟨⟨_, _⟩, ⟨_, _⟩, ⟨_, _⟩⟩, ⟨⟨_, _⟩, ⟨_, _⟩, ⟨_, _⟩⟩, ⟨⟨_, _⟩, ⟨_, _⟩, ⟨_, _⟩⟩⟩ = M3.mul (⟨⟨⟨p0, p1⟩, ⟨p2, p3⟩, ⟨p4, p5⟩⟩, ⟨⟨p6, p7⟩, ⟨p8, p9⟩, ⟨p10, p11⟩⟩, ⟨⟨p12, p13⟩, ⟨p14, p15⟩, ⟨p16, p17⟩⟩⟩ : M3) (⟨⟨⟨q0, q1⟩, ⟨q2, q3⟩, ⟨q4, q5⟩⟩, ⟨⟨q6, q7⟩, ⟨q8, q9⟩, ⟨q10, q11⟩⟩, ⟨⟨q12, q13⟩, ⟨q14, q15⟩, ⟨q16, q17⟩⟩⟩ : M3)))
  subst_vars; simp only [add_zero_mul']; rfl

set_option maxRecDepth 100000 in
theorem rCompose (p0 p1 p2 p3 p4 p5 p6 p7 p8 p9 p10 p11 p12 p13 p14 p15 p16 p17 : Int) (q0 q1 q2 q3 q4 q5 q6 q7 q8 q9 q10 q11 q12 q13 q14 q15 q16 q17 : Int) (w : World) : Calls Try.prog 92 [.agg #[.int .i64 p0, .int .i64 p1, .int .i64 p2, .int .i64 p3, .int .i64 p4, .int .i64 p5, .int .i64 p6, .int .i64 p7, .int .i64 p8, .int .i64 p9, .int .i64 p10, .int .i64 p11, .int .i64 p12, .int .i64 p13, .int .i64 p14, .int .i64 p15, .int .i64 p16, .int .i64 p17], .agg #[.int .i64 q0, .int .i64 q1, .int .i64 q2, .int .i64 q3, .int .i64 q4, .int .i64 q5, .int .i64 q6, .int .i64 q7, .int .i64 q8, .int .i64 q9, .int .i64 q10, .int .i64 q11, .int .i64 q12, .int .i64 q13, .int .i64 q14, .int .i64 q15, .int .i64 q16, .int .i64 q17]].toArray w (Rets (m3 (M3.mul (⟨⟨⟨p0, p1⟩, ⟨p2, p3⟩, ⟨p4, p5⟩⟩, ⟨⟨p6, p7⟩, ⟨p8, p9⟩, ⟨p10, p11⟩⟩, ⟨⟨p12, p13⟩, ⟨p14, p15⟩, ⟨p16, p17⟩⟩⟩ : M3) (⟨⟨⟨q0, q1⟩, ⟨q2, q3⟩, ⟨q4, q5⟩⟩, ⟨⟨q6, q7⟩, ⟨q8, q9⟩, ⟨q10, q11⟩⟩, ⟨⟨q12, q13⟩, ⟨q14, q15⟩, ⟨q16, q17⟩⟩⟩ : M3))) (w)) := by
  refine calls_of_doC (n := 60) Try.func92 rfl rfl rfl ?_
  refine doC_seq ?_
  refine doC_region ?_
  refine doL_box 2 rfl rfl rfl rfl ?_; intro b2
  refine doL_box 3 rfl rfl rfl rfl ?_; intro b3
  refine doL_alloc 4 ze28 rfl rfl rfl ?_; intro b4
  refine doL_nil ?_
  refine post_then ?_
  refine doC_seq ?_
  refine doC_region ?_
  refine doL_alloc 5 ze28 rfl rfl rfl ?_; intro b5
  refine doL_nil ?_
  refine post_then ?_
  refine doC_seq ?_
  refine doC_seq ?_
  refine doC_region ?_
  refine doL_v (opV_assign rfl) rfl rfl rfl ?_
  refine doL_nil ?_
  refine post_then ?_
  refine doC_block ?_
  refine doC_rounds 4 ?_
  refine doR_succ ?_
  refine doC_seq ?_
  refine doC_seq ?_
  refine doC_region ?_
  refine doL_v (opV_move rfl) rfl rfl rfl ?_
  refine doL_v (opV_lss rfl rfl) rfl rfl rfl ?_
  refine doL_nil ?_
  refine post_then ?_
  refine doC_cond_t rfl (by decide) ?_
  refine doC_skip ?_
  refine post_then ?_
  refine doC_seq ?_
  refine doC_block ?_
  refine doC_seq ?_
  refine doC_region ?_
  refine doL_v (opV_assign rfl) rfl rfl rfl ?_
  refine doL_nil ?_
  refine post_then ?_
  refine doC_block ?_
  refine doC_rounds 4 ?_
  refine doR_succ ?_
  refine doC_seq ?_
  refine doC_seq ?_
  refine doC_region ?_
  refine doL_v (opV_move rfl) rfl rfl rfl ?_
  refine doL_v (opV_lss rfl rfl) rfl rfl rfl ?_
  refine doL_nil ?_
  refine post_then ?_
  refine doC_cond_t rfl (by decide) ?_
  refine doC_skip ?_
  refine post_then ?_
  refine doC_seq ?_
  refine doC_block ?_
  refine doC_seq ?_
  refine doC_keep (ks := [2, 3, 4, 5, 6, 7]) rfl ?_
  refine doC_keepH (ks := [2, 3, 4, 5]) rfl ?_
  refine doC_drawn 30 mo (by kernel_rfl) ?_
  simp only [List.take_succ_cons, List.take_zero, List.drop_succ_cons, List.drop_zero]
  refine doG_v (opV_move rfl) rfl rfl rfl ?_
  refine doG_v (opV_indexAddr ar28 rfl rfl (by first | decide | omega) (by first | decide | omega)) rfl rfl rfl ?_
  refine doG_v (opV_indexAddr ar26 rfl rfl (by first | decide | omega) (by first | decide | omega)) rfl rfl rfl ?_
  refine doG_v (opV_loadA 2 ty23 rfl rfl rfl) rfl rfl rfl ?_
  refine doG_v (opV_move rfl) rfl rfl rfl ?_
  refine doG_v (opV_indexAddr ar28 rfl rfl (by first | decide | omega) (by first | decide | omega)) rfl rfl rfl ?_
  refine doG_v (opV_indexAddr ar26 rfl rfl (by first | decide | omega) (by first | decide | omega)) rfl rfl rfl ?_
  refine doG_v (opV_loadA 3 ty23 rfl rfl rfl) rfl rfl rfl ?_
  refine doG_vg (F := iv) (opV_call en125 rfl (fun w _ => rMul _ _ _ _  w)) rfl rfl rfl ?_; intro r25 hr25
  refine doG_v (opV_move rfl) rfl rfl rfl ?_
  refine doG_v (opV_indexAddr ar28 rfl rfl (by first | decide | omega) (by first | decide | omega)) rfl rfl rfl ?_
  refine doG_v (opV_indexAddr ar26 rfl rfl (by first | decide | omega) (by first | decide | omega)) rfl rfl rfl ?_
  refine doG_v (opV_loadA 2 ty23 rfl rfl rfl) rfl rfl rfl ?_
  refine doG_v (opV_move rfl) rfl rfl rfl ?_
  refine doG_v (opV_indexAddr ar28 rfl rfl (by first | decide | omega) (by first | decide | omega)) rfl rfl rfl ?_
  refine doG_v (opV_indexAddr ar26 rfl rfl (by first | decide | omega) (by first | decide | omega)) rfl rfl rfl ?_
  refine doG_v (opV_loadA 3 ty23 rfl rfl rfl) rfl rfl rfl ?_
  refine doG_vg (F := iv) (opV_call en125 rfl (fun w _ => rMul _ _ _ _  w)) rfl rfl rfl ?_; intro r34 hr34
  refine doG_vg (F := iv) (opV_call en87 rfl (fun w _ => rAdd _ _ _ _  w)) rfl rfl rfl ?_; intro r35 hr35
  refine doG_v (opV_move rfl) rfl rfl rfl ?_
  refine doG_v (opV_indexAddr ar28 rfl rfl (by first | decide | omega) (by first | decide | omega)) rfl rfl rfl ?_
  refine doG_v (opV_indexAddr ar26 rfl rfl (by first | decide | omega) (by first | decide | omega)) rfl rfl rfl ?_
  refine doG_v (opV_loadA 2 ty23 rfl rfl rfl) rfl rfl rfl ?_
  refine doG_v (opV_move rfl) rfl rfl rfl ?_
  refine doG_v (opV_indexAddr ar28 rfl rfl (by first | decide | omega) (by first | decide | omega)) rfl rfl rfl ?_
  refine doG_v (opV_indexAddr ar26 rfl rfl (by first | decide | omega) (by first | decide | omega)) rfl rfl rfl ?_
  refine doG_v (opV_loadA 3 ty23 rfl rfl rfl) rfl rfl rfl ?_
  refine doG_vg (F := iv) (opV_call en125 rfl (fun w _ => rMul _ _ _ _  w)) rfl rfl rfl ?_; intro r44 hr44
  refine doG_vg (F := iv) (opV_call en87 rfl (fun w _ => rAdd _ _ _ _  w)) rfl rfl rfl ?_; intro r45 hr45
  refine doG_alloc ze23 rfl rfl rfl rfl ?_
  refine doG_nil ?_
  refine tail_alloc 8 rfl ?_; intro b8_2
  refine tail_nil ?_
  refine doL_store 8 ty23 rfl rfl rfl rfl rfl rfl rfl rfl ?_
  refine doL_nil ?_
  refine post_then ?_
  refine doC_keep (ks := [2, 3, 4, 5, 6, 7, 8]) rfl ?_
  refine doC_drawn 13 mo (by kernel_rfl) ?_
  simp only [List.take_succ_cons, List.take_zero, List.drop_succ_cons, List.drop_zero]
  refine doG_v (opV_move rfl) rfl rfl rfl ?_
  refine doG_v (opV_move rfl) rfl rfl rfl ?_
  refine doG_v (opV_fieldAddr fa23_0 rfl) rfl rfl rfl ?_
  refine doG_v (opV_load1 8 ty2 rfl rfl rfl) rfl rfl rfl ?_
  refine doG_v (opV_min2 rfl rfl) rfl rfl rfl ?_
  refine doG_v (opV_max2 rfl rfl) rfl rfl rfl ?_
  refine doG_v (opV_fieldAddr fa23_1 rfl) rfl rfl rfl ?_
  refine doG_v (opV_load1 8 ty2 rfl rfl rfl) rfl rfl rfl ?_
  refine doG_v (opV_min2 rfl rfl) rfl rfl rfl ?_
  refine doG_v (opV_max2 rfl rfl) rfl rfl rfl ?_
  refine doG_v (opV_build la23 rfl rfl) rfl rfl rfl ?_
  refine doG_v (opV_indexAddr ar28 rfl rfl (by first | decide | omega) (by first | decide | omega)) rfl rfl rfl ?_
  refine doG_v (opV_indexAddr ar26 rfl rfl (by first | decide | omega) (by first | decide | omega)) rfl rfl rfl ?_
  refine doG_nil ?_
  refine tail_nil ?_
  refine doL_store 5 ty23 rfl rfl rfl rfl rfl rfl rfl rfl ?_
  refine doL_nil ?_
  refine post_block_normal ?_
  refine post_then ?_
  refine doC_region ?_
  refine doL_v (opV_move rfl) rfl rfl rfl ?_
  refine doL_v (opV_add rfl rfl (by first | exact i64_in ⟨by omega, by omega⟩ | rfl)) rfl rfl rfl ?_
  refine doL_v (opV_assign rfl) rfl rfl rfl ?_
  refine doL_nil ?_
  refine post_rounds ?_
  refine doR_succ ?_
  refine doC_seq ?_
  refine doC_seq ?_
  refine doC_region ?_
  refine doL_v (opV_move rfl) rfl rfl rfl ?_
  refine doL_v (opV_lss rfl rfl) rfl rfl rfl ?_
  refine doL_nil ?_
  refine post_then ?_
  refine doC_cond_t rfl (by decide) ?_
  refine doC_skip ?_
  refine post_then ?_
  refine doC_seq ?_
  refine doC_block ?_
  refine doC_seq ?_
  refine doC_keep (ks := [2, 3, 4, 5, 6, 7]) rfl ?_
  refine doC_keepH (ks := [2, 3, 4, 5]) rfl ?_
  refine doC_drawn 30 mo (by kernel_rfl) ?_
  simp only [List.take_succ_cons, List.take_zero, List.drop_succ_cons, List.drop_zero]
  refine doG_v (opV_move rfl) rfl rfl rfl ?_
  refine doG_v (opV_indexAddr ar28 rfl rfl (by first | decide | omega) (by first | decide | omega)) rfl rfl rfl ?_
  refine doG_v (opV_indexAddr ar26 rfl rfl (by first | decide | omega) (by first | decide | omega)) rfl rfl rfl ?_
  refine doG_v (opV_loadA 2 ty23 rfl rfl rfl) rfl rfl rfl ?_
  refine doG_v (opV_move rfl) rfl rfl rfl ?_
  refine doG_v (opV_indexAddr ar28 rfl rfl (by first | decide | omega) (by first | decide | omega)) rfl rfl rfl ?_
  refine doG_v (opV_indexAddr ar26 rfl rfl (by first | decide | omega) (by first | decide | omega)) rfl rfl rfl ?_
  refine doG_v (opV_loadA 3 ty23 rfl rfl rfl) rfl rfl rfl ?_
  refine doG_vg (F := iv) (opV_call en125 rfl (fun w _ => rMul _ _ _ _  w)) rfl rfl rfl ?_; intro r25_2 hr25_2
  refine doG_v (opV_move rfl) rfl rfl rfl ?_
  refine doG_v (opV_indexAddr ar28 rfl rfl (by first | decide | omega) (by first | decide | omega)) rfl rfl rfl ?_
  refine doG_v (opV_indexAddr ar26 rfl rfl (by first | decide | omega) (by first | decide | omega)) rfl rfl rfl ?_
  refine doG_v (opV_loadA 2 ty23 rfl rfl rfl) rfl rfl rfl ?_
  refine doG_v (opV_move rfl) rfl rfl rfl ?_
  refine doG_v (opV_indexAddr ar28 rfl rfl (by first | decide | omega) (by first | decide | omega)) rfl rfl rfl ?_
  refine doG_v (opV_indexAddr ar26 rfl rfl (by first | decide | omega) (by first | decide | omega)) rfl rfl rfl ?_
  refine doG_v (opV_loadA 3 ty23 rfl rfl rfl) rfl rfl rfl ?_
  refine doG_vg (F := iv) (opV_call en125 rfl (fun w _ => rMul _ _ _ _  w)) rfl rfl rfl ?_; intro r34_2 hr34_2
  refine doG_vg (F := iv) (opV_call en87 rfl (fun w _ => rAdd _ _ _ _  w)) rfl rfl rfl ?_; intro r35_2 hr35_2
  refine doG_v (opV_move rfl) rfl rfl rfl ?_
  refine doG_v (opV_indexAddr ar28 rfl rfl (by first | decide | omega) (by first | decide | omega)) rfl rfl rfl ?_
  refine doG_v (opV_indexAddr ar26 rfl rfl (by first | decide | omega) (by first | decide | omega)) rfl rfl rfl ?_
  refine doG_v (opV_loadA 2 ty23 rfl rfl rfl) rfl rfl rfl ?_
  refine doG_v (opV_move rfl) rfl rfl rfl ?_
  refine doG_v (opV_indexAddr ar28 rfl rfl (by first | decide | omega) (by first | decide | omega)) rfl rfl rfl ?_
  refine doG_v (opV_indexAddr ar26 rfl rfl (by first | decide | omega) (by first | decide | omega)) rfl rfl rfl ?_
  refine doG_v (opV_loadA 3 ty23 rfl rfl rfl) rfl rfl rfl ?_
  refine doG_vg (F := iv) (opV_call en125 rfl (fun w _ => rMul _ _ _ _  w)) rfl rfl rfl ?_; intro r44_2 hr44_2
  refine doG_vg (F := iv) (opV_call en87 rfl (fun w _ => rAdd _ _ _ _  w)) rfl rfl rfl ?_; intro r45_2 hr45_2
  refine doG_alloc ze23 rfl rfl rfl rfl ?_
  refine doG_nil ?_
  refine tail_alloc 8 rfl ?_; intro b8_4
  refine tail_nil ?_
  refine doL_store 8 ty23 rfl rfl rfl rfl rfl rfl rfl rfl ?_
  refine doL_nil ?_
  refine post_then ?_
  refine doC_keep (ks := [2, 3, 4, 5, 6, 7, 8]) rfl ?_
  refine doC_drawn 13 mo (by kernel_rfl) ?_
  simp only [List.take_succ_cons, List.take_zero, List.drop_succ_cons, List.drop_zero]
  refine doG_v (opV_move rfl) rfl rfl rfl ?_
  refine doG_v (opV_move rfl) rfl rfl rfl ?_
  refine doG_v (opV_fieldAddr fa23_0 rfl) rfl rfl rfl ?_
  refine doG_v (opV_load1 8 ty2 rfl rfl rfl) rfl rfl rfl ?_
  refine doG_v (opV_min2 rfl rfl) rfl rfl rfl ?_
  refine doG_v (opV_max2 rfl rfl) rfl rfl rfl ?_
  refine doG_v (opV_fieldAddr fa23_1 rfl) rfl rfl rfl ?_
  refine doG_v (opV_load1 8 ty2 rfl rfl rfl) rfl rfl rfl ?_
  refine doG_v (opV_min2 rfl rfl) rfl rfl rfl ?_
  refine doG_v (opV_max2 rfl rfl) rfl rfl rfl ?_
  refine doG_v (opV_build la23 rfl rfl) rfl rfl rfl ?_
  refine doG_v (opV_indexAddr ar28 rfl rfl (by first | decide | omega) (by first | decide | omega)) rfl rfl rfl ?_
  refine doG_v (opV_indexAddr ar26 rfl rfl (by first | decide | omega) (by first | decide | omega)) rfl rfl rfl ?_
  refine doG_nil ?_
  refine tail_nil ?_
  refine doL_store 5 ty23 rfl rfl rfl rfl rfl rfl rfl rfl ?_
  refine doL_nil ?_
  refine post_block_normal ?_
  refine post_then ?_
  refine doC_region ?_
  refine doL_v (opV_move rfl) rfl rfl rfl ?_
  refine doL_v (opV_add rfl rfl (by first | exact i64_in ⟨by omega, by omega⟩ | rfl)) rfl rfl rfl ?_
  refine doL_v (opV_assign rfl) rfl rfl rfl ?_
  refine doL_nil ?_
  refine post_rounds ?_
  refine doR_succ ?_
  refine doC_seq ?_
  refine doC_seq ?_
  refine doC_region ?_
  refine doL_v (opV_move rfl) rfl rfl rfl ?_
  refine doL_v (opV_lss rfl rfl) rfl rfl rfl ?_
  refine doL_nil ?_
  refine post_then ?_
  refine doC_cond_t rfl (by decide) ?_
  refine doC_skip ?_
  refine post_then ?_
  refine doC_seq ?_
  refine doC_block ?_
  refine doC_seq ?_
  refine doC_keep (ks := [2, 3, 4, 5, 6, 7]) rfl ?_
  refine doC_keepH (ks := [2, 3, 4, 5]) rfl ?_
  refine doC_drawn 30 mo (by kernel_rfl) ?_
  simp only [List.take_succ_cons, List.take_zero, List.drop_succ_cons, List.drop_zero]
  refine doG_v (opV_move rfl) rfl rfl rfl ?_
  refine doG_v (opV_indexAddr ar28 rfl rfl (by first | decide | omega) (by first | decide | omega)) rfl rfl rfl ?_
  refine doG_v (opV_indexAddr ar26 rfl rfl (by first | decide | omega) (by first | decide | omega)) rfl rfl rfl ?_
  refine doG_v (opV_loadA 2 ty23 rfl rfl rfl) rfl rfl rfl ?_
  refine doG_v (opV_move rfl) rfl rfl rfl ?_
  refine doG_v (opV_indexAddr ar28 rfl rfl (by first | decide | omega) (by first | decide | omega)) rfl rfl rfl ?_
  refine doG_v (opV_indexAddr ar26 rfl rfl (by first | decide | omega) (by first | decide | omega)) rfl rfl rfl ?_
  refine doG_v (opV_loadA 3 ty23 rfl rfl rfl) rfl rfl rfl ?_
  refine doG_vg (F := iv) (opV_call en125 rfl (fun w _ => rMul _ _ _ _  w)) rfl rfl rfl ?_; intro r25_3 hr25_3
  refine doG_v (opV_move rfl) rfl rfl rfl ?_
  refine doG_v (opV_indexAddr ar28 rfl rfl (by first | decide | omega) (by first | decide | omega)) rfl rfl rfl ?_
  refine doG_v (opV_indexAddr ar26 rfl rfl (by first | decide | omega) (by first | decide | omega)) rfl rfl rfl ?_
  refine doG_v (opV_loadA 2 ty23 rfl rfl rfl) rfl rfl rfl ?_
  refine doG_v (opV_move rfl) rfl rfl rfl ?_
  refine doG_v (opV_indexAddr ar28 rfl rfl (by first | decide | omega) (by first | decide | omega)) rfl rfl rfl ?_
  refine doG_v (opV_indexAddr ar26 rfl rfl (by first | decide | omega) (by first | decide | omega)) rfl rfl rfl ?_
  refine doG_v (opV_loadA 3 ty23 rfl rfl rfl) rfl rfl rfl ?_
  refine doG_vg (F := iv) (opV_call en125 rfl (fun w _ => rMul _ _ _ _  w)) rfl rfl rfl ?_; intro r34_3 hr34_3
  refine doG_vg (F := iv) (opV_call en87 rfl (fun w _ => rAdd _ _ _ _  w)) rfl rfl rfl ?_; intro r35_3 hr35_3
  refine doG_v (opV_move rfl) rfl rfl rfl ?_
  refine doG_v (opV_indexAddr ar28 rfl rfl (by first | decide | omega) (by first | decide | omega)) rfl rfl rfl ?_
  refine doG_v (opV_indexAddr ar26 rfl rfl (by first | decide | omega) (by first | decide | omega)) rfl rfl rfl ?_
  refine doG_v (opV_loadA 2 ty23 rfl rfl rfl) rfl rfl rfl ?_
  refine doG_v (opV_move rfl) rfl rfl rfl ?_
  refine doG_v (opV_indexAddr ar28 rfl rfl (by first | decide | omega) (by first | decide | omega)) rfl rfl rfl ?_
  refine doG_v (opV_indexAddr ar26 rfl rfl (by first | decide | omega) (by first | decide | omega)) rfl rfl rfl ?_
  refine doG_v (opV_loadA 3 ty23 rfl rfl rfl) rfl rfl rfl ?_
  refine doG_vg (F := iv) (opV_call en125 rfl (fun w _ => rMul _ _ _ _  w)) rfl rfl rfl ?_; intro r44_3 hr44_3
  refine doG_vg (F := iv) (opV_call en87 rfl (fun w _ => rAdd _ _ _ _  w)) rfl rfl rfl ?_; intro r45_3 hr45_3
  refine doG_alloc ze23 rfl rfl rfl rfl ?_
  refine doG_nil ?_
  refine tail_alloc 8 rfl ?_; intro b8_6
  refine tail_nil ?_
  refine doL_store 8 ty23 rfl rfl rfl rfl rfl rfl rfl rfl ?_
  refine doL_nil ?_
  refine post_then ?_
  refine doC_keep (ks := [2, 3, 4, 5, 6, 7, 8]) rfl ?_
  refine doC_drawn 13 mo (by kernel_rfl) ?_
  simp only [List.take_succ_cons, List.take_zero, List.drop_succ_cons, List.drop_zero]
  refine doG_v (opV_move rfl) rfl rfl rfl ?_
  refine doG_v (opV_move rfl) rfl rfl rfl ?_
  refine doG_v (opV_fieldAddr fa23_0 rfl) rfl rfl rfl ?_
  refine doG_v (opV_load1 8 ty2 rfl rfl rfl) rfl rfl rfl ?_
  refine doG_v (opV_min2 rfl rfl) rfl rfl rfl ?_
  refine doG_v (opV_max2 rfl rfl) rfl rfl rfl ?_
  refine doG_v (opV_fieldAddr fa23_1 rfl) rfl rfl rfl ?_
  refine doG_v (opV_load1 8 ty2 rfl rfl rfl) rfl rfl rfl ?_
  refine doG_v (opV_min2 rfl rfl) rfl rfl rfl ?_
  refine doG_v (opV_max2 rfl rfl) rfl rfl rfl ?_
  refine doG_v (opV_build la23 rfl rfl) rfl rfl rfl ?_
  refine doG_v (opV_indexAddr ar28 rfl rfl (by first | decide | omega) (by first | decide | omega)) rfl rfl rfl ?_
  refine doG_v (opV_indexAddr ar26 rfl rfl (by first | decide | omega) (by first | decide | omega)) rfl rfl rfl ?_
  refine doG_nil ?_
  refine tail_nil ?_
  refine doL_store 5 ty23 rfl rfl rfl rfl rfl rfl rfl rfl ?_
  refine doL_nil ?_
  refine post_block_normal ?_
  refine post_then ?_
  refine doC_region ?_
  refine doL_v (opV_move rfl) rfl rfl rfl ?_
  refine doL_v (opV_add rfl rfl (by first | exact i64_in ⟨by omega, by omega⟩ | rfl)) rfl rfl rfl ?_
  refine doL_v (opV_assign rfl) rfl rfl rfl ?_
  refine doL_nil ?_
  refine post_rounds ?_
  refine doR_succ ?_
  refine doC_seq ?_
  refine doC_seq ?_
  refine doC_region ?_
  refine doL_v (opV_move rfl) rfl rfl rfl ?_
  refine doL_v (opV_lss rfl rfl) rfl rfl rfl ?_
  refine doL_nil ?_
  refine post_then ?_
  refine doC_cond_f rfl (by decide) ?_
  refine doC_exit ?_
  refine post_then_exit ?_
  refine post_then_exit ?_
  refine post_block_exit ?_
  refine post_block_normal ?_
  refine post_then ?_
  refine doC_region ?_
  refine doL_v (opV_move rfl) rfl rfl rfl ?_
  refine doL_v (opV_add rfl rfl (by first | exact i64_in ⟨by omega, by omega⟩ | rfl)) rfl rfl rfl ?_
  refine doL_v (opV_assign rfl) rfl rfl rfl ?_
  refine doL_nil ?_
  refine post_rounds ?_
  refine doR_succ ?_
  refine doC_seq ?_
  refine doC_seq ?_
  refine doC_region ?_
  refine doL_v (opV_move rfl) rfl rfl rfl ?_
  refine doL_v (opV_lss rfl rfl) rfl rfl rfl ?_
  refine doL_nil ?_
  refine post_then ?_
  refine doC_cond_t rfl (by decide) ?_
  refine doC_skip ?_
  refine post_then ?_
  refine doC_seq ?_
  refine doC_block ?_
  refine doC_seq ?_
  refine doC_region ?_
  refine doL_v (opV_assign rfl) rfl rfl rfl ?_
  refine doL_nil ?_
  refine post_then ?_
  refine doC_block ?_
  refine doC_rounds 4 ?_
  refine doR_succ ?_
  refine doC_seq ?_
  refine doC_seq ?_
  refine doC_region ?_
  refine doL_v (opV_move rfl) rfl rfl rfl ?_
  refine doL_v (opV_lss rfl rfl) rfl rfl rfl ?_
  refine doL_nil ?_
  refine post_then ?_
  refine doC_cond_t rfl (by decide) ?_
  refine doC_skip ?_
  refine post_then ?_
  refine doC_seq ?_
  refine doC_block ?_
  refine doC_seq ?_
  refine doC_keep (ks := [2, 3, 4, 5, 6, 7]) rfl ?_
  refine doC_keepH (ks := [2, 3, 4, 5]) rfl ?_
  refine doC_drawn 30 mo (by kernel_rfl) ?_
  simp only [List.take_succ_cons, List.take_zero, List.drop_succ_cons, List.drop_zero]
  refine doG_v (opV_move rfl) rfl rfl rfl ?_
  refine doG_v (opV_indexAddr ar28 rfl rfl (by first | decide | omega) (by first | decide | omega)) rfl rfl rfl ?_
  refine doG_v (opV_indexAddr ar26 rfl rfl (by first | decide | omega) (by first | decide | omega)) rfl rfl rfl ?_
  refine doG_v (opV_loadA 2 ty23 rfl rfl rfl) rfl rfl rfl ?_
  refine doG_v (opV_move rfl) rfl rfl rfl ?_
  refine doG_v (opV_indexAddr ar28 rfl rfl (by first | decide | omega) (by first | decide | omega)) rfl rfl rfl ?_
  refine doG_v (opV_indexAddr ar26 rfl rfl (by first | decide | omega) (by first | decide | omega)) rfl rfl rfl ?_
  refine doG_v (opV_loadA 3 ty23 rfl rfl rfl) rfl rfl rfl ?_
  refine doG_vg (F := iv) (opV_call en125 rfl (fun w _ => rMul _ _ _ _  w)) rfl rfl rfl ?_; intro r25_4 hr25_4
  refine doG_v (opV_move rfl) rfl rfl rfl ?_
  refine doG_v (opV_indexAddr ar28 rfl rfl (by first | decide | omega) (by first | decide | omega)) rfl rfl rfl ?_
  refine doG_v (opV_indexAddr ar26 rfl rfl (by first | decide | omega) (by first | decide | omega)) rfl rfl rfl ?_
  refine doG_v (opV_loadA 2 ty23 rfl rfl rfl) rfl rfl rfl ?_
  refine doG_v (opV_move rfl) rfl rfl rfl ?_
  refine doG_v (opV_indexAddr ar28 rfl rfl (by first | decide | omega) (by first | decide | omega)) rfl rfl rfl ?_
  refine doG_v (opV_indexAddr ar26 rfl rfl (by first | decide | omega) (by first | decide | omega)) rfl rfl rfl ?_
  refine doG_v (opV_loadA 3 ty23 rfl rfl rfl) rfl rfl rfl ?_
  refine doG_vg (F := iv) (opV_call en125 rfl (fun w _ => rMul _ _ _ _  w)) rfl rfl rfl ?_; intro r34_4 hr34_4
  refine doG_vg (F := iv) (opV_call en87 rfl (fun w _ => rAdd _ _ _ _  w)) rfl rfl rfl ?_; intro r35_4 hr35_4
  refine doG_v (opV_move rfl) rfl rfl rfl ?_
  refine doG_v (opV_indexAddr ar28 rfl rfl (by first | decide | omega) (by first | decide | omega)) rfl rfl rfl ?_
  refine doG_v (opV_indexAddr ar26 rfl rfl (by first | decide | omega) (by first | decide | omega)) rfl rfl rfl ?_
  refine doG_v (opV_loadA 2 ty23 rfl rfl rfl) rfl rfl rfl ?_
  refine doG_v (opV_move rfl) rfl rfl rfl ?_
  refine doG_v (opV_indexAddr ar28 rfl rfl (by first | decide | omega) (by first | decide | omega)) rfl rfl rfl ?_
  refine doG_v (opV_indexAddr ar26 rfl rfl (by first | decide | omega) (by first | decide | omega)) rfl rfl rfl ?_
  refine doG_v (opV_loadA 3 ty23 rfl rfl rfl) rfl rfl rfl ?_
  refine doG_vg (F := iv) (opV_call en125 rfl (fun w _ => rMul _ _ _ _  w)) rfl rfl rfl ?_; intro r44_4 hr44_4
  refine doG_vg (F := iv) (opV_call en87 rfl (fun w _ => rAdd _ _ _ _  w)) rfl rfl rfl ?_; intro r45_4 hr45_4
  refine doG_alloc ze23 rfl rfl rfl rfl ?_
  refine doG_nil ?_
  refine tail_alloc 8 rfl ?_; intro b8_8
  refine tail_nil ?_
  refine doL_store 8 ty23 rfl rfl rfl rfl rfl rfl rfl rfl ?_
  refine doL_nil ?_
  refine post_then ?_
  refine doC_keep (ks := [2, 3, 4, 5, 6, 7, 8]) rfl ?_
  refine doC_drawn 13 mo (by kernel_rfl) ?_
  simp only [List.take_succ_cons, List.take_zero, List.drop_succ_cons, List.drop_zero]
  refine doG_v (opV_move rfl) rfl rfl rfl ?_
  refine doG_v (opV_move rfl) rfl rfl rfl ?_
  refine doG_v (opV_fieldAddr fa23_0 rfl) rfl rfl rfl ?_
  refine doG_v (opV_load1 8 ty2 rfl rfl rfl) rfl rfl rfl ?_
  refine doG_v (opV_min2 rfl rfl) rfl rfl rfl ?_
  refine doG_v (opV_max2 rfl rfl) rfl rfl rfl ?_
  refine doG_v (opV_fieldAddr fa23_1 rfl) rfl rfl rfl ?_
  refine doG_v (opV_load1 8 ty2 rfl rfl rfl) rfl rfl rfl ?_
  refine doG_v (opV_min2 rfl rfl) rfl rfl rfl ?_
  refine doG_v (opV_max2 rfl rfl) rfl rfl rfl ?_
  refine doG_v (opV_build la23 rfl rfl) rfl rfl rfl ?_
  refine doG_v (opV_indexAddr ar28 rfl rfl (by first | decide | omega) (by first | decide | omega)) rfl rfl rfl ?_
  refine doG_v (opV_indexAddr ar26 rfl rfl (by first | decide | omega) (by first | decide | omega)) rfl rfl rfl ?_
  refine doG_nil ?_
  refine tail_nil ?_
  refine doL_store 5 ty23 rfl rfl rfl rfl rfl rfl rfl rfl ?_
  refine doL_nil ?_
  refine post_block_normal ?_
  refine post_then ?_
  refine doC_region ?_
  refine doL_v (opV_move rfl) rfl rfl rfl ?_
  refine doL_v (opV_add rfl rfl (by first | exact i64_in ⟨by omega, by omega⟩ | rfl)) rfl rfl rfl ?_
  refine doL_v (opV_assign rfl) rfl rfl rfl ?_
  refine doL_nil ?_
  refine post_rounds ?_
  refine doR_succ ?_
  refine doC_seq ?_
  refine doC_seq ?_
  refine doC_region ?_
  refine doL_v (opV_move rfl) rfl rfl rfl ?_
  refine doL_v (opV_lss rfl rfl) rfl rfl rfl ?_
  refine doL_nil ?_
  refine post_then ?_
  refine doC_cond_t rfl (by decide) ?_
  refine doC_skip ?_
  refine post_then ?_
  refine doC_seq ?_
  refine doC_block ?_
  refine doC_seq ?_
  refine doC_keep (ks := [2, 3, 4, 5, 6, 7]) rfl ?_
  refine doC_keepH (ks := [2, 3, 4, 5]) rfl ?_
  refine doC_drawn 30 mo (by kernel_rfl) ?_
  simp only [List.take_succ_cons, List.take_zero, List.drop_succ_cons, List.drop_zero]
  refine doG_v (opV_move rfl) rfl rfl rfl ?_
  refine doG_v (opV_indexAddr ar28 rfl rfl (by first | decide | omega) (by first | decide | omega)) rfl rfl rfl ?_
  refine doG_v (opV_indexAddr ar26 rfl rfl (by first | decide | omega) (by first | decide | omega)) rfl rfl rfl ?_
  refine doG_v (opV_loadA 2 ty23 rfl rfl rfl) rfl rfl rfl ?_
  refine doG_v (opV_move rfl) rfl rfl rfl ?_
  refine doG_v (opV_indexAddr ar28 rfl rfl (by first | decide | omega) (by first | decide | omega)) rfl rfl rfl ?_
  refine doG_v (opV_indexAddr ar26 rfl rfl (by first | decide | omega) (by first | decide | omega)) rfl rfl rfl ?_
  refine doG_v (opV_loadA 3 ty23 rfl rfl rfl) rfl rfl rfl ?_
  refine doG_vg (F := iv) (opV_call en125 rfl (fun w _ => rMul _ _ _ _  w)) rfl rfl rfl ?_; intro r25_5 hr25_5
  refine doG_v (opV_move rfl) rfl rfl rfl ?_
  refine doG_v (opV_indexAddr ar28 rfl rfl (by first | decide | omega) (by first | decide | omega)) rfl rfl rfl ?_
  refine doG_v (opV_indexAddr ar26 rfl rfl (by first | decide | omega) (by first | decide | omega)) rfl rfl rfl ?_
  refine doG_v (opV_loadA 2 ty23 rfl rfl rfl) rfl rfl rfl ?_
  refine doG_v (opV_move rfl) rfl rfl rfl ?_
  refine doG_v (opV_indexAddr ar28 rfl rfl (by first | decide | omega) (by first | decide | omega)) rfl rfl rfl ?_
  refine doG_v (opV_indexAddr ar26 rfl rfl (by first | decide | omega) (by first | decide | omega)) rfl rfl rfl ?_
  refine doG_v (opV_loadA 3 ty23 rfl rfl rfl) rfl rfl rfl ?_
  refine doG_vg (F := iv) (opV_call en125 rfl (fun w _ => rMul _ _ _ _  w)) rfl rfl rfl ?_; intro r34_5 hr34_5
  refine doG_vg (F := iv) (opV_call en87 rfl (fun w _ => rAdd _ _ _ _  w)) rfl rfl rfl ?_; intro r35_5 hr35_5
  refine doG_v (opV_move rfl) rfl rfl rfl ?_
  refine doG_v (opV_indexAddr ar28 rfl rfl (by first | decide | omega) (by first | decide | omega)) rfl rfl rfl ?_
  refine doG_v (opV_indexAddr ar26 rfl rfl (by first | decide | omega) (by first | decide | omega)) rfl rfl rfl ?_
  refine doG_v (opV_loadA 2 ty23 rfl rfl rfl) rfl rfl rfl ?_
  refine doG_v (opV_move rfl) rfl rfl rfl ?_
  refine doG_v (opV_indexAddr ar28 rfl rfl (by first | decide | omega) (by first | decide | omega)) rfl rfl rfl ?_
  refine doG_v (opV_indexAddr ar26 rfl rfl (by first | decide | omega) (by first | decide | omega)) rfl rfl rfl ?_
  refine doG_v (opV_loadA 3 ty23 rfl rfl rfl) rfl rfl rfl ?_
  refine doG_vg (F := iv) (opV_call en125 rfl (fun w _ => rMul _ _ _ _  w)) rfl rfl rfl ?_; intro r44_5 hr44_5
  refine doG_vg (F := iv) (opV_call en87 rfl (fun w _ => rAdd _ _ _ _  w)) rfl rfl rfl ?_; intro r45_5 hr45_5
  refine doG_alloc ze23 rfl rfl rfl rfl ?_
  refine doG_nil ?_
  refine tail_alloc 8 rfl ?_; intro b8_10
  refine tail_nil ?_
  refine doL_store 8 ty23 rfl rfl rfl rfl rfl rfl rfl rfl ?_
  refine doL_nil ?_
  refine post_then ?_
  refine doC_keep (ks := [2, 3, 4, 5, 6, 7, 8]) rfl ?_
  refine doC_drawn 13 mo (by kernel_rfl) ?_
  simp only [List.take_succ_cons, List.take_zero, List.drop_succ_cons, List.drop_zero]
  refine doG_v (opV_move rfl) rfl rfl rfl ?_
  refine doG_v (opV_move rfl) rfl rfl rfl ?_
  refine doG_v (opV_fieldAddr fa23_0 rfl) rfl rfl rfl ?_
  refine doG_v (opV_load1 8 ty2 rfl rfl rfl) rfl rfl rfl ?_
  refine doG_v (opV_min2 rfl rfl) rfl rfl rfl ?_
  refine doG_v (opV_max2 rfl rfl) rfl rfl rfl ?_
  refine doG_v (opV_fieldAddr fa23_1 rfl) rfl rfl rfl ?_
  refine doG_v (opV_load1 8 ty2 rfl rfl rfl) rfl rfl rfl ?_
  refine doG_v (opV_min2 rfl rfl) rfl rfl rfl ?_
  refine doG_v (opV_max2 rfl rfl) rfl rfl rfl ?_
  refine doG_v (opV_build la23 rfl rfl) rfl rfl rfl ?_
  refine doG_v (opV_indexAddr ar28 rfl rfl (by first | decide | omega) (by first | decide | omega)) rfl rfl rfl ?_
  refine doG_v (opV_indexAddr ar26 rfl rfl (by first | decide | omega) (by first | decide | omega)) rfl rfl rfl ?_
  refine doG_nil ?_
  refine tail_nil ?_
  refine doL_store 5 ty23 rfl rfl rfl rfl rfl rfl rfl rfl ?_
  refine doL_nil ?_
  refine post_block_normal ?_
  refine post_then ?_
  refine doC_region ?_
  refine doL_v (opV_move rfl) rfl rfl rfl ?_
  refine doL_v (opV_add rfl rfl (by first | exact i64_in ⟨by omega, by omega⟩ | rfl)) rfl rfl rfl ?_
  refine doL_v (opV_assign rfl) rfl rfl rfl ?_
  refine doL_nil ?_
  refine post_rounds ?_
  refine doR_succ ?_
  refine doC_seq ?_
  refine doC_seq ?_
  refine doC_region ?_
  refine doL_v (opV_move rfl) rfl rfl rfl ?_
  refine doL_v (opV_lss rfl rfl) rfl rfl rfl ?_
  refine doL_nil ?_
  refine post_then ?_
  refine doC_cond_t rfl (by decide) ?_
  refine doC_skip ?_
  refine post_then ?_
  refine doC_seq ?_
  refine doC_block ?_
  refine doC_seq ?_
  refine doC_keep (ks := [2, 3, 4, 5, 6, 7]) rfl ?_
  refine doC_keepH (ks := [2, 3, 4, 5]) rfl ?_
  refine doC_drawn 30 mo (by kernel_rfl) ?_
  simp only [List.take_succ_cons, List.take_zero, List.drop_succ_cons, List.drop_zero]
  refine doG_v (opV_move rfl) rfl rfl rfl ?_
  refine doG_v (opV_indexAddr ar28 rfl rfl (by first | decide | omega) (by first | decide | omega)) rfl rfl rfl ?_
  refine doG_v (opV_indexAddr ar26 rfl rfl (by first | decide | omega) (by first | decide | omega)) rfl rfl rfl ?_
  refine doG_v (opV_loadA 2 ty23 rfl rfl rfl) rfl rfl rfl ?_
  refine doG_v (opV_move rfl) rfl rfl rfl ?_
  refine doG_v (opV_indexAddr ar28 rfl rfl (by first | decide | omega) (by first | decide | omega)) rfl rfl rfl ?_
  refine doG_v (opV_indexAddr ar26 rfl rfl (by first | decide | omega) (by first | decide | omega)) rfl rfl rfl ?_
  refine doG_v (opV_loadA 3 ty23 rfl rfl rfl) rfl rfl rfl ?_
  refine doG_vg (F := iv) (opV_call en125 rfl (fun w _ => rMul _ _ _ _  w)) rfl rfl rfl ?_; intro r25_6 hr25_6
  refine doG_v (opV_move rfl) rfl rfl rfl ?_
  refine doG_v (opV_indexAddr ar28 rfl rfl (by first | decide | omega) (by first | decide | omega)) rfl rfl rfl ?_
  refine doG_v (opV_indexAddr ar26 rfl rfl (by first | decide | omega) (by first | decide | omega)) rfl rfl rfl ?_
  refine doG_v (opV_loadA 2 ty23 rfl rfl rfl) rfl rfl rfl ?_
  refine doG_v (opV_move rfl) rfl rfl rfl ?_
  refine doG_v (opV_indexAddr ar28 rfl rfl (by first | decide | omega) (by first | decide | omega)) rfl rfl rfl ?_
  refine doG_v (opV_indexAddr ar26 rfl rfl (by first | decide | omega) (by first | decide | omega)) rfl rfl rfl ?_
  refine doG_v (opV_loadA 3 ty23 rfl rfl rfl) rfl rfl rfl ?_
  refine doG_vg (F := iv) (opV_call en125 rfl (fun w _ => rMul _ _ _ _  w)) rfl rfl rfl ?_; intro r34_6 hr34_6
  refine doG_vg (F := iv) (opV_call en87 rfl (fun w _ => rAdd _ _ _ _  w)) rfl rfl rfl ?_; intro r35_6 hr35_6
  refine doG_v (opV_move rfl) rfl rfl rfl ?_
  refine doG_v (opV_indexAddr ar28 rfl rfl (by first | decide | omega) (by first | decide | omega)) rfl rfl rfl ?_
  refine doG_v (opV_indexAddr ar26 rfl rfl (by first | decide | omega) (by first | decide | omega)) rfl rfl rfl ?_
  refine doG_v (opV_loadA 2 ty23 rfl rfl rfl) rfl rfl rfl ?_
  refine doG_v (opV_move rfl) rfl rfl rfl ?_
  refine doG_v (opV_indexAddr ar28 rfl rfl (by first | decide | omega) (by first | decide | omega)) rfl rfl rfl ?_
  refine doG_v (opV_indexAddr ar26 rfl rfl (by first | decide | omega) (by first | decide | omega)) rfl rfl rfl ?_
  refine doG_v (opV_loadA 3 ty23 rfl rfl rfl) rfl rfl rfl ?_
  refine doG_vg (F := iv) (opV_call en125 rfl (fun w _ => rMul _ _ _ _  w)) rfl rfl rfl ?_; intro r44_6 hr44_6
  refine doG_vg (F := iv) (opV_call en87 rfl (fun w _ => rAdd _ _ _ _  w)) rfl rfl rfl ?_; intro r45_6 hr45_6
  refine doG_alloc ze23 rfl rfl rfl rfl ?_
  refine doG_nil ?_
  refine tail_alloc 8 rfl ?_; intro b8_12
  refine tail_nil ?_
  refine doL_store 8 ty23 rfl rfl rfl rfl rfl rfl rfl rfl ?_
  refine doL_nil ?_
  refine post_then ?_
  refine doC_keep (ks := [2, 3, 4, 5, 6, 7, 8]) rfl ?_
  refine doC_drawn 13 mo (by kernel_rfl) ?_
  simp only [List.take_succ_cons, List.take_zero, List.drop_succ_cons, List.drop_zero]
  refine doG_v (opV_move rfl) rfl rfl rfl ?_
  refine doG_v (opV_move rfl) rfl rfl rfl ?_
  refine doG_v (opV_fieldAddr fa23_0 rfl) rfl rfl rfl ?_
  refine doG_v (opV_load1 8 ty2 rfl rfl rfl) rfl rfl rfl ?_
  refine doG_v (opV_min2 rfl rfl) rfl rfl rfl ?_
  refine doG_v (opV_max2 rfl rfl) rfl rfl rfl ?_
  refine doG_v (opV_fieldAddr fa23_1 rfl) rfl rfl rfl ?_
  refine doG_v (opV_load1 8 ty2 rfl rfl rfl) rfl rfl rfl ?_
  refine doG_v (opV_min2 rfl rfl) rfl rfl rfl ?_
  refine doG_v (opV_max2 rfl rfl) rfl rfl rfl ?_
  refine doG_v (opV_build la23 rfl rfl) rfl rfl rfl ?_
  refine doG_v (opV_indexAddr ar28 rfl rfl (by first | decide | omega) (by first | decide | omega)) rfl rfl rfl ?_
  refine doG_v (opV_indexAddr ar26 rfl rfl (by first | decide | omega) (by first | decide | omega)) rfl rfl rfl ?_
  refine doG_nil ?_
  refine tail_nil ?_
  refine doL_store 5 ty23 rfl rfl rfl rfl rfl rfl rfl rfl ?_
  refine doL_nil ?_
  refine post_block_normal ?_
  refine post_then ?_
  refine doC_region ?_
  refine doL_v (opV_move rfl) rfl rfl rfl ?_
  refine doL_v (opV_add rfl rfl (by first | exact i64_in ⟨by omega, by omega⟩ | rfl)) rfl rfl rfl ?_
  refine doL_v (opV_assign rfl) rfl rfl rfl ?_
  refine doL_nil ?_
  refine post_rounds ?_
  refine doR_succ ?_
  refine doC_seq ?_
  refine doC_seq ?_
  refine doC_region ?_
  refine doL_v (opV_move rfl) rfl rfl rfl ?_
  refine doL_v (opV_lss rfl rfl) rfl rfl rfl ?_
  refine doL_nil ?_
  refine post_then ?_
  refine doC_cond_f rfl (by decide) ?_
  refine doC_exit ?_
  refine post_then_exit ?_
  refine post_then_exit ?_
  refine post_block_exit ?_
  refine post_block_normal ?_
  refine post_then ?_
  refine doC_region ?_
  refine doL_v (opV_move rfl) rfl rfl rfl ?_
  refine doL_v (opV_add rfl rfl (by first | exact i64_in ⟨by omega, by omega⟩ | rfl)) rfl rfl rfl ?_
  refine doL_v (opV_assign rfl) rfl rfl rfl ?_
  refine doL_nil ?_
  refine post_rounds ?_
  refine doR_succ ?_
  refine doC_seq ?_
  refine doC_seq ?_
  refine doC_region ?_
  refine doL_v (opV_move rfl) rfl rfl rfl ?_
  refine doL_v (opV_lss rfl rfl) rfl rfl rfl ?_
  refine doL_nil ?_
  refine post_then ?_
  refine doC_cond_t rfl (by decide) ?_
  refine doC_skip ?_
  refine post_then ?_
  refine doC_seq ?_
  refine doC_block ?_
  refine doC_seq ?_
  refine doC_region ?_
  refine doL_v (opV_assign rfl) rfl rfl rfl ?_
  refine doL_nil ?_
  refine post_then ?_
  refine doC_block ?_
  refine doC_rounds 4 ?_
  refine doR_succ ?_
  refine doC_seq ?_
  refine doC_seq ?_
  refine doC_region ?_
  refine doL_v (opV_move rfl) rfl rfl rfl ?_
  refine doL_v (opV_lss rfl rfl) rfl rfl rfl ?_
  refine doL_nil ?_
  refine post_then ?_
  refine doC_cond_t rfl (by decide) ?_
  refine doC_skip ?_
  refine post_then ?_
  refine doC_seq ?_
  refine doC_block ?_
  refine doC_seq ?_
  refine doC_keep (ks := [2, 3, 4, 5, 6, 7]) rfl ?_
  refine doC_keepH (ks := [2, 3, 4, 5]) rfl ?_
  refine doC_drawn 30 mo (by kernel_rfl) ?_
  simp only [List.take_succ_cons, List.take_zero, List.drop_succ_cons, List.drop_zero]
  refine doG_v (opV_move rfl) rfl rfl rfl ?_
  refine doG_v (opV_indexAddr ar28 rfl rfl (by first | decide | omega) (by first | decide | omega)) rfl rfl rfl ?_
  refine doG_v (opV_indexAddr ar26 rfl rfl (by first | decide | omega) (by first | decide | omega)) rfl rfl rfl ?_
  refine doG_v (opV_loadA 2 ty23 rfl rfl rfl) rfl rfl rfl ?_
  refine doG_v (opV_move rfl) rfl rfl rfl ?_
  refine doG_v (opV_indexAddr ar28 rfl rfl (by first | decide | omega) (by first | decide | omega)) rfl rfl rfl ?_
  refine doG_v (opV_indexAddr ar26 rfl rfl (by first | decide | omega) (by first | decide | omega)) rfl rfl rfl ?_
  refine doG_v (opV_loadA 3 ty23 rfl rfl rfl) rfl rfl rfl ?_
  refine doG_vg (F := iv) (opV_call en125 rfl (fun w _ => rMul _ _ _ _  w)) rfl rfl rfl ?_; intro r25_7 hr25_7
  refine doG_v (opV_move rfl) rfl rfl rfl ?_
  refine doG_v (opV_indexAddr ar28 rfl rfl (by first | decide | omega) (by first | decide | omega)) rfl rfl rfl ?_
  refine doG_v (opV_indexAddr ar26 rfl rfl (by first | decide | omega) (by first | decide | omega)) rfl rfl rfl ?_
  refine doG_v (opV_loadA 2 ty23 rfl rfl rfl) rfl rfl rfl ?_
  refine doG_v (opV_move rfl) rfl rfl rfl ?_
  refine doG_v (opV_indexAddr ar28 rfl rfl (by first | decide | omega) (by first | decide | omega)) rfl rfl rfl ?_
  refine doG_v (opV_indexAddr ar26 rfl rfl (by first | decide | omega) (by first | decide | omega)) rfl rfl rfl ?_
  refine doG_v (opV_loadA 3 ty23 rfl rfl rfl) rfl rfl rfl ?_
  refine doG_vg (F := iv) (opV_call en125 rfl (fun w _ => rMul _ _ _ _  w)) rfl rfl rfl ?_; intro r34_7 hr34_7
  refine doG_vg (F := iv) (opV_call en87 rfl (fun w _ => rAdd _ _ _ _  w)) rfl rfl rfl ?_; intro r35_7 hr35_7
  refine doG_v (opV_move rfl) rfl rfl rfl ?_
  refine doG_v (opV_indexAddr ar28 rfl rfl (by first | decide | omega) (by first | decide | omega)) rfl rfl rfl ?_
  refine doG_v (opV_indexAddr ar26 rfl rfl (by first | decide | omega) (by first | decide | omega)) rfl rfl rfl ?_
  refine doG_v (opV_loadA 2 ty23 rfl rfl rfl) rfl rfl rfl ?_
  refine doG_v (opV_move rfl) rfl rfl rfl ?_
  refine doG_v (opV_indexAddr ar28 rfl rfl (by first | decide | omega) (by first | decide | omega)) rfl rfl rfl ?_
  refine doG_v (opV_indexAddr ar26 rfl rfl (by first | decide | omega) (by first | decide | omega)) rfl rfl rfl ?_
  refine doG_v (opV_loadA 3 ty23 rfl rfl rfl) rfl rfl rfl ?_
  refine doG_vg (F := iv) (opV_call en125 rfl (fun w _ => rMul _ _ _ _  w)) rfl rfl rfl ?_; intro r44_7 hr44_7
  refine doG_vg (F := iv) (opV_call en87 rfl (fun w _ => rAdd _ _ _ _  w)) rfl rfl rfl ?_; intro r45_7 hr45_7
  refine doG_alloc ze23 rfl rfl rfl rfl ?_
  refine doG_nil ?_
  refine tail_alloc 8 rfl ?_; intro b8_14
  refine tail_nil ?_
  refine doL_store 8 ty23 rfl rfl rfl rfl rfl rfl rfl rfl ?_
  refine doL_nil ?_
  refine post_then ?_
  refine doC_keep (ks := [2, 3, 4, 5, 6, 7, 8]) rfl ?_
  refine doC_drawn 13 mo (by kernel_rfl) ?_
  simp only [List.take_succ_cons, List.take_zero, List.drop_succ_cons, List.drop_zero]
  refine doG_v (opV_move rfl) rfl rfl rfl ?_
  refine doG_v (opV_move rfl) rfl rfl rfl ?_
  refine doG_v (opV_fieldAddr fa23_0 rfl) rfl rfl rfl ?_
  refine doG_v (opV_load1 8 ty2 rfl rfl rfl) rfl rfl rfl ?_
  refine doG_v (opV_min2 rfl rfl) rfl rfl rfl ?_
  refine doG_v (opV_max2 rfl rfl) rfl rfl rfl ?_
  refine doG_v (opV_fieldAddr fa23_1 rfl) rfl rfl rfl ?_
  refine doG_v (opV_load1 8 ty2 rfl rfl rfl) rfl rfl rfl ?_
  refine doG_v (opV_min2 rfl rfl) rfl rfl rfl ?_
  refine doG_v (opV_max2 rfl rfl) rfl rfl rfl ?_
  refine doG_v (opV_build la23 rfl rfl) rfl rfl rfl ?_
  refine doG_v (opV_indexAddr ar28 rfl rfl (by first | decide | omega) (by first | decide | omega)) rfl rfl rfl ?_
  refine doG_v (opV_indexAddr ar26 rfl rfl (by first | decide | omega) (by first | decide | omega)) rfl rfl rfl ?_
  refine doG_nil ?_
  refine tail_nil ?_
  refine doL_store 5 ty23 rfl rfl rfl rfl rfl rfl rfl rfl ?_
  refine doL_nil ?_
  refine post_block_normal ?_
  refine post_then ?_
  refine doC_region ?_
  refine doL_v (opV_move rfl) rfl rfl rfl ?_
  refine doL_v (opV_add rfl rfl (by first | exact i64_in ⟨by omega, by omega⟩ | rfl)) rfl rfl rfl ?_
  refine doL_v (opV_assign rfl) rfl rfl rfl ?_
  refine doL_nil ?_
  refine post_rounds ?_
  refine doR_succ ?_
  refine doC_seq ?_
  refine doC_seq ?_
  refine doC_region ?_
  refine doL_v (opV_move rfl) rfl rfl rfl ?_
  refine doL_v (opV_lss rfl rfl) rfl rfl rfl ?_
  refine doL_nil ?_
  refine post_then ?_
  refine doC_cond_t rfl (by decide) ?_
  refine doC_skip ?_
  refine post_then ?_
  refine doC_seq ?_
  refine doC_block ?_
  refine doC_seq ?_
  refine doC_keep (ks := [2, 3, 4, 5, 6, 7]) rfl ?_
  refine doC_keepH (ks := [2, 3, 4, 5]) rfl ?_
  refine doC_drawn 30 mo (by kernel_rfl) ?_
  simp only [List.take_succ_cons, List.take_zero, List.drop_succ_cons, List.drop_zero]
  refine doG_v (opV_move rfl) rfl rfl rfl ?_
  refine doG_v (opV_indexAddr ar28 rfl rfl (by first | decide | omega) (by first | decide | omega)) rfl rfl rfl ?_
  refine doG_v (opV_indexAddr ar26 rfl rfl (by first | decide | omega) (by first | decide | omega)) rfl rfl rfl ?_
  refine doG_v (opV_loadA 2 ty23 rfl rfl rfl) rfl rfl rfl ?_
  refine doG_v (opV_move rfl) rfl rfl rfl ?_
  refine doG_v (opV_indexAddr ar28 rfl rfl (by first | decide | omega) (by first | decide | omega)) rfl rfl rfl ?_
  refine doG_v (opV_indexAddr ar26 rfl rfl (by first | decide | omega) (by first | decide | omega)) rfl rfl rfl ?_
  refine doG_v (opV_loadA 3 ty23 rfl rfl rfl) rfl rfl rfl ?_
  refine doG_vg (F := iv) (opV_call en125 rfl (fun w _ => rMul _ _ _ _  w)) rfl rfl rfl ?_; intro r25_8 hr25_8
  refine doG_v (opV_move rfl) rfl rfl rfl ?_
  refine doG_v (opV_indexAddr ar28 rfl rfl (by first | decide | omega) (by first | decide | omega)) rfl rfl rfl ?_
  refine doG_v (opV_indexAddr ar26 rfl rfl (by first | decide | omega) (by first | decide | omega)) rfl rfl rfl ?_
  refine doG_v (opV_loadA 2 ty23 rfl rfl rfl) rfl rfl rfl ?_
  refine doG_v (opV_move rfl) rfl rfl rfl ?_
  refine doG_v (opV_indexAddr ar28 rfl rfl (by first | decide | omega) (by first | decide | omega)) rfl rfl rfl ?_
  refine doG_v (opV_indexAddr ar26 rfl rfl (by first | decide | omega) (by first | decide | omega)) rfl rfl rfl ?_
  refine doG_v (opV_loadA 3 ty23 rfl rfl rfl) rfl rfl rfl ?_
  refine doG_vg (F := iv) (opV_call en125 rfl (fun w _ => rMul _ _ _ _  w)) rfl rfl rfl ?_; intro r34_8 hr34_8
  refine doG_vg (F := iv) (opV_call en87 rfl (fun w _ => rAdd _ _ _ _  w)) rfl rfl rfl ?_; intro r35_8 hr35_8
  refine doG_v (opV_move rfl) rfl rfl rfl ?_
  refine doG_v (opV_indexAddr ar28 rfl rfl (by first | decide | omega) (by first | decide | omega)) rfl rfl rfl ?_
  refine doG_v (opV_indexAddr ar26 rfl rfl (by first | decide | omega) (by first | decide | omega)) rfl rfl rfl ?_
  refine doG_v (opV_loadA 2 ty23 rfl rfl rfl) rfl rfl rfl ?_
  refine doG_v (opV_move rfl) rfl rfl rfl ?_
  refine doG_v (opV_indexAddr ar28 rfl rfl (by first | decide | omega) (by first | decide | omega)) rfl rfl rfl ?_
  refine doG_v (opV_indexAddr ar26 rfl rfl (by first | decide | omega) (by first | decide | omega)) rfl rfl rfl ?_
  refine doG_v (opV_loadA 3 ty23 rfl rfl rfl) rfl rfl rfl ?_
  refine doG_vg (F := iv) (opV_call en125 rfl (fun w _ => rMul _ _ _ _  w)) rfl rfl rfl ?_; intro r44_8 hr44_8
  refine doG_vg (F := iv) (opV_call en87 rfl (fun w _ => rAdd _ _ _ _  w)) rfl rfl rfl ?_; intro r45_8 hr45_8
  refine doG_alloc ze23 rfl rfl rfl rfl ?_
  refine doG_nil ?_
  refine tail_alloc 8 rfl ?_; intro b8_16
  refine tail_nil ?_
  refine doL_store 8 ty23 rfl rfl rfl rfl rfl rfl rfl rfl ?_
  refine doL_nil ?_
  refine post_then ?_
  refine doC_keep (ks := [2, 3, 4, 5, 6, 7, 8]) rfl ?_
  refine doC_drawn 13 mo (by kernel_rfl) ?_
  simp only [List.take_succ_cons, List.take_zero, List.drop_succ_cons, List.drop_zero]
  refine doG_v (opV_move rfl) rfl rfl rfl ?_
  refine doG_v (opV_move rfl) rfl rfl rfl ?_
  refine doG_v (opV_fieldAddr fa23_0 rfl) rfl rfl rfl ?_
  refine doG_v (opV_load1 8 ty2 rfl rfl rfl) rfl rfl rfl ?_
  refine doG_v (opV_min2 rfl rfl) rfl rfl rfl ?_
  refine doG_v (opV_max2 rfl rfl) rfl rfl rfl ?_
  refine doG_v (opV_fieldAddr fa23_1 rfl) rfl rfl rfl ?_
  refine doG_v (opV_load1 8 ty2 rfl rfl rfl) rfl rfl rfl ?_
  refine doG_v (opV_min2 rfl rfl) rfl rfl rfl ?_
  refine doG_v (opV_max2 rfl rfl) rfl rfl rfl ?_
  refine doG_v (opV_build la23 rfl rfl) rfl rfl rfl ?_
  refine doG_v (opV_indexAddr ar28 rfl rfl (by first | decide | omega) (by first | decide | omega)) rfl rfl rfl ?_
  refine doG_v (opV_indexAddr ar26 rfl rfl (by first | decide | omega) (by first | decide | omega)) rfl rfl rfl ?_
  refine doG_nil ?_
  refine tail_nil ?_
  refine doL_store 5 ty23 rfl rfl rfl rfl rfl rfl rfl rfl ?_
  refine doL_nil ?_
  refine post_block_normal ?_
  refine post_then ?_
  refine doC_region ?_
  refine doL_v (opV_move rfl) rfl rfl rfl ?_
  refine doL_v (opV_add rfl rfl (by first | exact i64_in ⟨by omega, by omega⟩ | rfl)) rfl rfl rfl ?_
  refine doL_v (opV_assign rfl) rfl rfl rfl ?_
  refine doL_nil ?_
  refine post_rounds ?_
  refine doR_succ ?_
  refine doC_seq ?_
  refine doC_seq ?_
  refine doC_region ?_
  refine doL_v (opV_move rfl) rfl rfl rfl ?_
  refine doL_v (opV_lss rfl rfl) rfl rfl rfl ?_
  refine doL_nil ?_
  refine post_then ?_
  refine doC_cond_t rfl (by decide) ?_
  refine doC_skip ?_
  refine post_then ?_
  refine doC_seq ?_
  refine doC_block ?_
  refine doC_seq ?_
  refine doC_keep (ks := [2, 3, 4, 5, 6, 7]) rfl ?_
  refine doC_keepH (ks := [2, 3, 4, 5]) rfl ?_
  refine doC_drawn 30 mo (by kernel_rfl) ?_
  simp only [List.take_succ_cons, List.take_zero, List.drop_succ_cons, List.drop_zero]
  refine doG_v (opV_move rfl) rfl rfl rfl ?_
  refine doG_v (opV_indexAddr ar28 rfl rfl (by first | decide | omega) (by first | decide | omega)) rfl rfl rfl ?_
  refine doG_v (opV_indexAddr ar26 rfl rfl (by first | decide | omega) (by first | decide | omega)) rfl rfl rfl ?_
  refine doG_v (opV_loadA 2 ty23 rfl rfl rfl) rfl rfl rfl ?_
  refine doG_v (opV_move rfl) rfl rfl rfl ?_
  refine doG_v (opV_indexAddr ar28 rfl rfl (by first | decide | omega) (by first | decide | omega)) rfl rfl rfl ?_
  refine doG_v (opV_indexAddr ar26 rfl rfl (by first | decide | omega) (by first | decide | omega)) rfl rfl rfl ?_
  refine doG_v (opV_loadA 3 ty23 rfl rfl rfl) rfl rfl rfl ?_
  refine doG_vg (F := iv) (opV_call en125 rfl (fun w _ => rMul _ _ _ _  w)) rfl rfl rfl ?_; intro r25_9 hr25_9
  refine doG_v (opV_move rfl) rfl rfl rfl ?_
  refine doG_v (opV_indexAddr ar28 rfl rfl (by first | decide | omega) (by first | decide | omega)) rfl rfl rfl ?_
  refine doG_v (opV_indexAddr ar26 rfl rfl (by first | decide | omega) (by first | decide | omega)) rfl rfl rfl ?_
  refine doG_v (opV_loadA 2 ty23 rfl rfl rfl) rfl rfl rfl ?_
  refine doG_v (opV_move rfl) rfl rfl rfl ?_
  refine doG_v (opV_indexAddr ar28 rfl rfl (by first | decide | omega) (by first | decide | omega)) rfl rfl rfl ?_
  refine doG_v (opV_indexAddr ar26 rfl rfl (by first | decide | omega) (by first | decide | omega)) rfl rfl rfl ?_
  refine doG_v (opV_loadA 3 ty23 rfl rfl rfl) rfl rfl rfl ?_
  refine doG_vg (F := iv) (opV_call en125 rfl (fun w _ => rMul _ _ _ _  w)) rfl rfl rfl ?_; intro r34_9 hr34_9
  refine doG_vg (F := iv) (opV_call en87 rfl (fun w _ => rAdd _ _ _ _  w)) rfl rfl rfl ?_; intro r35_9 hr35_9
  refine doG_v (opV_move rfl) rfl rfl rfl ?_
  refine doG_v (opV_indexAddr ar28 rfl rfl (by first | decide | omega) (by first | decide | omega)) rfl rfl rfl ?_
  refine doG_v (opV_indexAddr ar26 rfl rfl (by first | decide | omega) (by first | decide | omega)) rfl rfl rfl ?_
  refine doG_v (opV_loadA 2 ty23 rfl rfl rfl) rfl rfl rfl ?_
  refine doG_v (opV_move rfl) rfl rfl rfl ?_
  refine doG_v (opV_indexAddr ar28 rfl rfl (by first | decide | omega) (by first | decide | omega)) rfl rfl rfl ?_
  refine doG_v (opV_indexAddr ar26 rfl rfl (by first | decide | omega) (by first | decide | omega)) rfl rfl rfl ?_
  refine doG_v (opV_loadA 3 ty23 rfl rfl rfl) rfl rfl rfl ?_
  refine doG_vg (F := iv) (opV_call en125 rfl (fun w _ => rMul _ _ _ _  w)) rfl rfl rfl ?_; intro r44_9 hr44_9
  refine doG_vg (F := iv) (opV_call en87 rfl (fun w _ => rAdd _ _ _ _  w)) rfl rfl rfl ?_; intro r45_9 hr45_9
  refine doG_alloc ze23 rfl rfl rfl rfl ?_
  refine doG_nil ?_
  refine tail_alloc 8 rfl ?_; intro b8_18
  refine tail_nil ?_
  refine doL_store 8 ty23 rfl rfl rfl rfl rfl rfl rfl rfl ?_
  refine doL_nil ?_
  refine post_then ?_
  refine doC_keep (ks := [2, 3, 4, 5, 6, 7, 8]) rfl ?_
  refine doC_drawn 13 mo (by kernel_rfl) ?_
  simp only [List.take_succ_cons, List.take_zero, List.drop_succ_cons, List.drop_zero]
  refine doG_v (opV_move rfl) rfl rfl rfl ?_
  refine doG_v (opV_move rfl) rfl rfl rfl ?_
  refine doG_v (opV_fieldAddr fa23_0 rfl) rfl rfl rfl ?_
  refine doG_v (opV_load1 8 ty2 rfl rfl rfl) rfl rfl rfl ?_
  refine doG_v (opV_min2 rfl rfl) rfl rfl rfl ?_
  refine doG_v (opV_max2 rfl rfl) rfl rfl rfl ?_
  refine doG_v (opV_fieldAddr fa23_1 rfl) rfl rfl rfl ?_
  refine doG_v (opV_load1 8 ty2 rfl rfl rfl) rfl rfl rfl ?_
  refine doG_v (opV_min2 rfl rfl) rfl rfl rfl ?_
  refine doG_v (opV_max2 rfl rfl) rfl rfl rfl ?_
  refine doG_v (opV_build la23 rfl rfl) rfl rfl rfl ?_
  refine doG_v (opV_indexAddr ar28 rfl rfl (by first | decide | omega) (by first | decide | omega)) rfl rfl rfl ?_
  refine doG_v (opV_indexAddr ar26 rfl rfl (by first | decide | omega) (by first | decide | omega)) rfl rfl rfl ?_
  refine doG_nil ?_
  refine tail_nil ?_
  refine doL_store 5 ty23 rfl rfl rfl rfl rfl rfl rfl rfl ?_
  refine doL_nil ?_
  refine post_block_normal ?_
  refine post_then ?_
  refine doC_region ?_
  refine doL_v (opV_move rfl) rfl rfl rfl ?_
  refine doL_v (opV_add rfl rfl (by first | exact i64_in ⟨by omega, by omega⟩ | rfl)) rfl rfl rfl ?_
  refine doL_v (opV_assign rfl) rfl rfl rfl ?_
  refine doL_nil ?_
  refine post_rounds ?_
  refine doR_succ ?_
  refine doC_seq ?_
  refine doC_seq ?_
  refine doC_region ?_
  refine doL_v (opV_move rfl) rfl rfl rfl ?_
  refine doL_v (opV_lss rfl rfl) rfl rfl rfl ?_
  refine doL_nil ?_
  refine post_then ?_
  refine doC_cond_f rfl (by decide) ?_
  refine doC_exit ?_
  refine post_then_exit ?_
  refine post_then_exit ?_
  refine post_block_exit ?_
  refine post_block_normal ?_
  refine post_then ?_
  refine doC_region ?_
  refine doL_v (opV_move rfl) rfl rfl rfl ?_
  refine doL_v (opV_add rfl rfl (by first | exact i64_in ⟨by omega, by omega⟩ | rfl)) rfl rfl rfl ?_
  refine doL_v (opV_assign rfl) rfl rfl rfl ?_
  refine doL_nil ?_
  refine post_rounds ?_
  refine doR_succ ?_
  refine doC_seq ?_
  refine doC_seq ?_
  refine doC_region ?_
  refine doL_v (opV_move rfl) rfl rfl rfl ?_
  refine doL_v (opV_lss rfl rfl) rfl rfl rfl ?_
  refine doL_nil ?_
  refine post_then ?_
  refine doC_cond_f rfl (by decide) ?_
  refine doC_exit ?_
  refine post_then_exit ?_
  refine post_then_exit ?_
  refine post_block_exit ?_
  refine post_then ?_
  refine doC_seq ?_
  refine doC_region ?_
  refine doL_v (opV_loadA 5 ty28 rfl rfl rfl) rfl rfl rfl ?_
  refine doL_store 4 ty28 rfl rfl rfl rfl rfl rfl rfl rfl ?_
  refine doL_nil ?_
  refine post_then ?_
  refine doC_ret ?_
  refine post_rets (rs := [.cell 4 28]) rfl (resC (resIs_cell 4 rfl rfl ty28 rfl) (resN)) (congrArg (m3) (?_ : ⟨⟨⟨_, _⟩, ⟨_, _⟩, ⟨_, _⟩⟩, ⟨⟨_, _⟩, ⟨_, _⟩, ⟨_, _⟩⟩, ⟨⟨_, _⟩, ⟨_, _⟩, ⟨_, _⟩⟩⟩ = M3.mul (⟨⟨⟨p0, p1⟩, ⟨p2, p3⟩, ⟨p4, p5⟩⟩, ⟨⟨p6, p7⟩, ⟨p8, p9⟩, ⟨p10, p11⟩⟩, ⟨⟨p12, p13⟩, ⟨p14, p15⟩, ⟨p16, p17⟩⟩⟩ : M3) (⟨⟨⟨q0, q1⟩, ⟨q2, q3⟩, ⟨q4, q5⟩⟩, ⟨⟨q6, q7⟩, ⟨q8, q9⟩, ⟨q10, q11⟩⟩, ⟨⟨q12, q13⟩, ⟨q14, q15⟩, ⟨q16, q17⟩⟩⟩ : M3)))
  subst_vars; simp only [lim_ref]; rfl

end Go.Proofs.Ytonampcmhhhffaa

/- Part 8 of the texts behind the last one: rules and contracts. No condition. -/
import Derived.Test.YtonampcmhhhffaaKP7
namespace Go.Proofs.Ytonampcmhhhffaa
open Go.Sx
theorem en89 : Enters Try.prog 89 := enters_of Try.func89 (by kernel_rfl) (by kernel_rfl)
set_option maxRecDepth 100000 in
theorem mCompose (p0 p1 p2 p3 p4 p5 p6 p7 p8 p9 p10 p11 p12 p13 p14 p15 p16 p17 : Int) (q0 q1 q2 q3 q4 q5 q6 q7 q8 q9 q10 q11 q12 q13 q14 q15 q16 q17 : Int) (w : World) : Calls Try.prog 34 [.agg #[.int .i64 p0, .int .i64 p1, .int .i64 p2, .int .i64 p3, .int .i64 p4, .int .i64 p5, .int .i64 p6, .int .i64 p7, .int .i64 p8, .int .i64 p9, .int .i64 p10, .int .i64 p11, .int .i64 p12, .int .i64 p13, .int .i64 p14, .int .i64 p15, .int .i64 p16, .int .i64 p17], .agg #[.int .i64 q0, .int .i64 q1, .int .i64 q2, .int .i64 q3, .int .i64 q4, .int .i64 q5, .int .i64 q6, .int .i64 q7, .int .i64 q8, .int .i64 q9, .int .i64 q10, .int .i64 q11, .int .i64 q12, .int .i64 q13, .int .i64 q14, .int .i64 q15, .int .i64 q16, .int .i64 q17]].toArray w (Rets (m3 (M3.mul (⟨⟨⟨p0, p1⟩, ⟨p2, p3⟩, ⟨p4, p5⟩⟩, ⟨⟨p6, p7⟩, ⟨p8, p9⟩, ⟨p10, p11⟩⟩, ⟨⟨p12, p13⟩, ⟨p14, p15⟩, ⟨p16, p17⟩⟩⟩ : M3) (⟨⟨⟨q0, q1⟩, ⟨q2, q3⟩, ⟨q4, q5⟩⟩, ⟨⟨q6, q7⟩, ⟨q8, q9⟩, ⟨q10, q11⟩⟩, ⟨⟨q12, q13⟩, ⟨q14, q15⟩, ⟨q16, q17⟩⟩⟩ : M3))) (w)) := by
  refine calls_of_doC (n := 47) Try.func34 rfl rfl rfl ?_
  refine doC_seq ?_
  refine doC_region ?_
  refine doL_box 2 rfl rfl rfl rfl ?_; intro b2
  refine doL_box 3 rfl rfl rfl rfl ?_; intro b3
  refine doL_alloc 4 ze28 rfl rfl rfl ?_; intro b4
  refine doL_nil ?_
  refine post_then ?_
  refine doC_seq ?_
  refine doC_region ?_
  refine doL_alloc 5 ze28 rfl rfl rfl ?_; intro b5
  refine doL_nil ?_
  refine post_then ?_
  refine doC_seq ?_
  refine doC_seq ?_
  refine doC_region ?_
  refine doL_v (opV_move rfl) rfl rfl rfl ?_
  refine doL_nil ?_
  refine post_then ?_
  refine doC_block ?_
  refine doC_rounds 4 ?_
  refine doR_succ ?_
  refine doC_seq ?_
  refine doC_region ?_
  refine doL_v (opV_lss rfl rfl) rfl rfl rfl ?_
  refine doL_nil ?_
  refine post_then ?_
  refine doC_seq ?_
  refine doC_cond_t rfl (by decide) ?_
  refine doC_skip ?_
  refine post_then ?_
  refine doC_seq ?_
  refine doC_block ?_
  refine doC_seq ?_
  refine doC_region ?_
  refine doL_v (opV_move rfl) rfl rfl rfl ?_
  refine doL_v (opV_assign rfl) rfl rfl rfl ?_
  refine doL_nil ?_
  refine post_then ?_
  refine doC_seq ?_
  refine doC_region ?_
  refine doL_v (opV_move rfl) rfl rfl rfl ?_
  refine doL_nil ?_
  refine post_then ?_
  refine doC_block ?_
  refine doC_rounds 4 ?_
  refine doR_succ ?_
  refine doC_seq ?_
  refine doC_region ?_
  refine doL_v (opV_lss rfl rfl) rfl rfl rfl ?_
  refine doL_nil ?_
  refine post_then ?_
  refine doC_seq ?_
  refine doC_cond_t rfl (by decide) ?_
  refine doC_skip ?_
  refine post_then ?_
  refine doC_seq ?_
  refine doC_block ?_
  refine doC_seq ?_
  refine doC_region ?_
  refine doL_v (opV_move rfl) rfl rfl rfl ?_
  refine doL_v (opV_assign rfl) rfl rfl rfl ?_
  refine doL_nil ?_
  refine post_then ?_
  refine doC_seq ?_
  refine doC_keepH (ks := [2, 3, 4, 5]) rfl ?_
  refine doC_region ?_
  refine doL_alloc 8 ze23 rfl rfl rfl ?_; intro b8
  refine doL_nil ?_
  refine post_then ?_
  refine doC_seq ?_
  refine doC_seq ?_
  refine doC_region ?_
  refine doL_v (opV_move rfl) rfl rfl rfl ?_
  refine doL_nil ?_
  refine post_then ?_
  refine doC_block ?_
  refine doC_rounds 4 ?_
  refine doR_succ ?_
  refine doC_seq ?_
  refine doC_region ?_
  refine doL_v (opV_lss rfl rfl) rfl rfl rfl ?_
  refine doL_nil ?_
  refine post_then ?_
  refine doC_seq ?_
  refine doC_cond_t rfl (by decide) ?_
  refine doC_skip ?_
  refine post_then ?_
  refine doC_seq ?_
  refine doC_block ?_
  refine doC_seq ?_
  refine doC_region ?_
  refine doL_v (opV_move rfl) rfl rfl rfl ?_
  refine doL_v (opV_assign rfl) rfl rfl rfl ?_
  refine doL_nil ?_
  refine post_then ?_
  refine doC_keep (ks := [2, 3, 4, 5, 6, 7, 8, 9, 10, 13, 16]) rfl ?_
  refine doC_drawn 13 mo (by kernel_rfl) ?_
  simp only [List.take_succ_cons, List.take_zero, List.drop_succ_cons, List.drop_zero]
  refine doG_v (opV_loadA 8 ty23 rfl rfl rfl) rfl rfl rfl ?_
  refine doG_v (opV_move rfl) rfl rfl rfl ?_
  refine doG_v (opV_move rfl) rfl rfl rfl ?_
  refine doG_v (opV_indexAddr ar28 rfl rfl (by first | decide | omega) (by first | decide | omega)) rfl rfl rfl ?_
  refine doG_v (opV_indexAddr ar26 rfl rfl (by first | decide | omega) (by first | decide | omega)) rfl rfl rfl ?_
  refine doG_v (opV_loadA 2 ty23 rfl rfl rfl) rfl rfl rfl ?_
  refine doG_v (opV_move rfl) rfl rfl rfl ?_
  refine doG_v (opV_move rfl) rfl rfl rfl ?_
  refine doG_v (opV_indexAddr ar28 rfl rfl (by first | decide | omega) (by first | decide | omega)) rfl rfl rfl ?_
  refine doG_v (opV_indexAddr ar26 rfl rfl (by first | decide | omega) (by first | decide | omega)) rfl rfl rfl ?_
  refine doG_v (opV_loadA 3 ty23 rfl rfl rfl) rfl rfl rfl ?_
  refine doG_vg (F := iv) (opV_call en85 rfl (fun w _ => iMul _ _ _ _  w)) rfl rfl rfl ?_; intro r30 hr30
  refine doG_vg (F := iv) (opV_call en84 rfl (fun w _ => iAdd _ _ _ _  w)) rfl rfl rfl ?_; intro r31 hr31
  refine doG_nil ?_
  refine tail_nil ?_
  refine doL_store 8 ty23 rfl rfl rfl rfl rfl rfl rfl rfl ?_
  refine doL_nil ?_
  refine post_block_normal ?_
  refine post_then ?_
  refine doC_region ?_
  refine doL_v (opV_add rfl rfl (by first | exact i64_in ⟨by omega, by omega⟩ | rfl)) rfl rfl rfl ?_
  refine doL_v (opV_move rfl) rfl rfl rfl ?_
  refine doL_nil ?_
  refine post_rounds ?_
  refine doR_succ ?_
  refine doC_seq ?_
  refine doC_region ?_
  refine doL_v (opV_lss rfl rfl) rfl rfl rfl ?_
  refine doL_nil ?_
  refine post_then ?_
  refine doC_seq ?_
  refine doC_cond_t rfl (by decide) ?_
  refine doC_skip ?_
  refine post_then ?_
  refine doC_seq ?_
  refine doC_block ?_
  refine doC_seq ?_
  refine doC_region ?_
  refine doL_v (opV_move rfl) rfl rfl rfl ?_
  refine doL_v (opV_assign rfl) rfl rfl rfl ?_
  refine doL_nil ?_
  refine post_then ?_
  refine doC_keep (ks := [2, 3, 4, 5, 6, 7, 8, 9, 10, 13, 16]) rfl ?_
  refine doC_drawn 13 mo (by kernel_rfl) ?_
  simp only [List.take_succ_cons, List.take_zero, List.drop_succ_cons, List.drop_zero]
  refine doG_v (opV_loadA 8 ty23 rfl rfl rfl) rfl rfl rfl ?_
  refine doG_v (opV_move rfl) rfl rfl rfl ?_
  refine doG_v (opV_move rfl) rfl rfl rfl ?_
  refine doG_v (opV_indexAddr ar28 rfl rfl (by first | decide | omega) (by first | decide | omega)) rfl rfl rfl ?_
  refine doG_v (opV_indexAddr ar26 rfl rfl (by first | decide | omega) (by first | decide | omega)) rfl rfl rfl ?_
  refine doG_v (opV_loadA 2 ty23 rfl rfl rfl) rfl rfl rfl ?_
  refine doG_v (opV_move rfl) rfl rfl rfl ?_
  refine doG_v (opV_move rfl) rfl rfl rfl ?_
  refine doG_v (opV_indexAddr ar28 rfl rfl (by first | decide | omega) (by first | decide | omega)) rfl rfl rfl ?_
  refine doG_v (opV_indexAddr ar26 rfl rfl (by first | decide | omega) (by first | decide | omega)) rfl rfl rfl ?_
  refine doG_v (opV_loadA 3 ty23 rfl rfl rfl) rfl rfl rfl ?_
  refine doG_vg (F := iv) (opV_call en85 rfl (fun w _ => iMul _ _ _ _  w)) rfl rfl rfl ?_; intro r30_2 hr30_2
  refine doG_vg (F := iv) (opV_call en84 rfl (fun w _ => iAdd _ _ _ _  w)) rfl rfl rfl ?_; intro r31_2 hr31_2
  refine doG_nil ?_
  refine tail_nil ?_
  refine doL_store 8 ty23 rfl rfl rfl rfl rfl rfl rfl rfl ?_
  refine doL_nil ?_
  refine post_block_normal ?_
  refine post_then ?_
  refine doC_region ?_
  refine doL_v (opV_add rfl rfl (by first | exact i64_in ⟨by omega, by omega⟩ | rfl)) rfl rfl rfl ?_
  refine doL_v (opV_move rfl) rfl rfl rfl ?_
  refine doL_nil ?_
  refine post_rounds ?_
  refine doR_succ ?_
  refine doC_seq ?_
  refine doC_region ?_
  refine doL_v (opV_lss rfl rfl) rfl rfl rfl ?_
  refine doL_nil ?_
  refine post_then ?_
  refine doC_seq ?_
  refine doC_cond_t rfl (by decide) ?_
  refine doC_skip ?_
  refine post_then ?_
  refine doC_seq ?_
  refine doC_block ?_
  refine doC_seq ?_
  refine doC_region ?_
  refine doL_v (opV_move rfl) rfl rfl rfl ?_
  refine doL_v (opV_assign rfl) rfl rfl rfl ?_
  refine doL_nil ?_
  refine post_then ?_
  refine doC_keep (ks := [2, 3, 4, 5, 6, 7, 8, 9, 10, 13, 16]) rfl ?_
  refine doC_drawn 13 mo (by kernel_rfl) ?_
  simp only [List.take_succ_cons, List.take_zero, List.drop_succ_cons, List.drop_zero]
  refine doG_v (opV_loadA 8 ty23 rfl rfl rfl) rfl rfl rfl ?_
  refine doG_v (opV_move rfl) rfl rfl rfl ?_
  refine doG_v (opV_move rfl) rfl rfl rfl ?_
  refine doG_v (opV_indexAddr ar28 rfl rfl (by first | decide | omega) (by first | decide | omega)) rfl rfl rfl ?_
  refine doG_v (opV_indexAddr ar26 rfl rfl (by first | decide | omega) (by first | decide | omega)) rfl rfl rfl ?_
  refine doG_v (opV_loadA 2 ty23 rfl rfl rfl) rfl rfl rfl ?_
  refine doG_v (opV_move rfl) rfl rfl rfl ?_
  refine doG_v (opV_move rfl) rfl rfl rfl ?_
  refine doG_v (opV_indexAddr ar28 rfl rfl (by first | decide | omega) (by first | decide | omega)) rfl rfl rfl ?_
  refine doG_v (opV_indexAddr ar26 rfl rfl (by first | decide | omega) (by first | decide | omega)) rfl rfl rfl ?_
  refine doG_v (opV_loadA 3 ty23 rfl rfl rfl) rfl rfl rfl ?_
  refine doG_vg (F := iv) (opV_call en85 rfl (fun w _ => iMul _ _ _ _  w)) rfl rfl rfl ?_; intro r30_3 hr30_3
  refine doG_vg (F := iv) (opV_call en84 rfl (fun w _ => iAdd _ _ _ _  w)) rfl rfl rfl ?_; intro r31_3 hr31_3
  refine doG_nil ?_
  refine tail_nil ?_
  refine doL_store 8 ty23 rfl rfl rfl rfl rfl rfl rfl rfl ?_
  refine doL_nil ?_
  refine post_block_normal ?_
  refine post_then ?_
  refine doC_region ?_
  refine doL_v (opV_add rfl rfl (by first | exact i64_in ⟨by omega, by omega⟩ | rfl)) rfl rfl rfl ?_
  refine doL_v (opV_move rfl) rfl rfl rfl ?_
  refine doL_nil ?_
  refine post_rounds ?_
  refine doR_succ ?_
  refine doC_seq ?_
  refine doC_region ?_
  refine doL_v (opV_lss rfl rfl) rfl rfl rfl ?_
  refine doL_nil ?_
  refine post_then ?_
  refine doC_seq ?_
  refine doC_cond_f rfl (by decide) ?_
  refine doC_exit ?_
  refine post_then_exit ?_
  refine post_then_exit ?_
  refine post_block_exit ?_
  refine post_then ?_
  refine doC_keep (ks := [2, 3, 4, 5, 6, 7, 8, 9, 10, 13, 16]) rfl ?_
  refine doC_drawn 11 mo (by kernel_rfl) ?_
  simp only [List.take_succ_cons, List.take_zero, List.drop_succ_cons, List.drop_zero]
  refine doG_v (opV_move rfl) rfl rfl rfl ?_
  refine doG_v (opV_move rfl) rfl rfl rfl ?_
  refine doG_v (opV_fieldAddr fa23_0 rfl) rfl rfl rfl ?_
  refine doG_v (opV_load1 8 ty2 rfl rfl rfl) rfl rfl rfl ?_
  refine doG_vg (F := vI) (opV_call en89 rfl (fun w _ => mLimited _  w)) rfl rfl rfl ?_; intro r37 hr37
  refine doG_v (opV_fieldAddr fa23_1 rfl) rfl rfl rfl ?_
  refine doG_v (opV_load1 8 ty2 rfl rfl rfl) rfl rfl rfl ?_
  refine doG_vg (F := vI) (opV_call en89 rfl (fun w _ => mLimited _  w)) rfl rfl rfl ?_; intro r40 hr40
  refine doG_v (opV_build la23 rfl rfl) rfl rfl rfl ?_
  refine doG_v (opV_indexAddr ar28 rfl rfl (by first | decide | omega) (by first | decide | omega)) rfl rfl rfl ?_
  refine doG_v (opV_indexAddr ar26 rfl rfl (by first | decide | omega) (by first | decide | omega)) rfl rfl rfl ?_
  refine doG_nil ?_
  refine tail_nil ?_
  refine doL_store 5 ty23 rfl rfl rfl rfl rfl rfl rfl rfl ?_
  refine doL_nil ?_
  refine post_block_normal ?_
  refine post_then ?_
  refine doC_region ?_
  refine doL_v (opV_add rfl rfl (by first | exact i64_in ⟨by omega, by omega⟩ | rfl)) rfl rfl rfl ?_
  refine doL_v (opV_move rfl) rfl rfl rfl ?_
  refine doL_nil ?_
  refine post_rounds ?_
  refine doR_succ ?_
  refine doC_seq ?_
  refine doC_region ?_
  refine doL_v (opV_lss rfl rfl) rfl rfl rfl ?_
  refine doL_nil ?_
  refine post_then ?_
  refine doC_seq ?_
  refine doC_cond_t rfl (by decide) ?_
  refine doC_skip ?_
  refine post_then ?_
  refine doC_seq ?_
  refine doC_block ?_
  refine doC_seq ?_
  refine doC_region ?_
  refine doL_v (opV_move rfl) rfl rfl rfl ?_
  refine doL_v (opV_assign rfl) rfl rfl rfl ?_
  refine doL_nil ?_
  refine post_then ?_
  refine doC_seq ?_
  refine doC_keepH (ks := [2, 3, 4, 5]) rfl ?_
  refine doC_region ?_
  refine doL_alloc 8 ze23 rfl rfl rfl ?_; intro b8_2
  refine doL_nil ?_
  refine post_then ?_
  refine doC_seq ?_
  refine doC_seq ?_
  refine doC_region ?_
  refine doL_v (opV_move rfl) rfl rfl rfl ?_
  refine doL_nil ?_
  refine post_then ?_
  refine doC_block ?_
  refine doC_rounds 4 ?_
  refine doR_succ ?_
  refine doC_seq ?_
  refine doC_region ?_
  refine doL_v (opV_lss rfl rfl) rfl rfl rfl ?_
  refine doL_nil ?_
  refine post_then ?_
  refine doC_seq ?_
  refine doC_cond_t rfl (by decide) ?_
  refine doC_skip ?_
  refine post_then ?_
  refine doC_seq ?_
  refine doC_block ?_
  refine doC_seq ?_
  refine doC_region ?_
  refine doL_v (opV_move rfl) rfl rfl rfl ?_
  refine doL_v (opV_assign rfl) rfl rfl rfl ?_
  refine doL_nil ?_
  refine post_then ?_
  refine doC_keep (ks := [2, 3, 4, 5, 6, 7, 8, 9, 10, 13, 16]) rfl ?_
  refine doC_drawn 13 mo (by kernel_rfl) ?_
  simp only [List.take_succ_cons, List.take_zero, List.drop_succ_cons, List.drop_zero]
  refine doG_v (opV_loadA 8 ty23 rfl rfl rfl) rfl rfl rfl ?_
  refine doG_v (opV_move rfl) rfl rfl rfl ?_
  refine doG_v (opV_move rfl) rfl rfl rfl ?_
  refine doG_v (opV_indexAddr ar28 rfl rfl (by first | decide | omega) (by first | decide | omega)) rfl rfl rfl ?_
  refine doG_v (opV_indexAddr ar26 rfl rfl (by first | decide | omega) (by first | decide | omega)) rfl rfl rfl ?_
  refine doG_v (opV_loadA 2 ty23 rfl rfl rfl) rfl rfl rfl ?_
  refine doG_v (opV_move rfl) rfl rfl rfl ?_
  refine doG_v (opV_move rfl) rfl rfl rfl ?_
  refine doG_v (opV_indexAddr ar28 rfl rfl (by first | decide | omega) (by first | decide | omega)) rfl rfl rfl ?_
  refine doG_v (opV_indexAddr ar26 rfl rfl (by first | decide | omega) (by first | decide | omega)) rfl rfl rfl ?_
  refine doG_v (opV_loadA 3 ty23 rfl rfl rfl) rfl rfl rfl ?_
  refine doG_vg (F := iv) (opV_call en85 rfl (fun w _ => iMul _ _ _ _  w)) rfl rfl rfl ?_; intro r30_4 hr30_4
  refine doG_vg (F := iv) (opV_call en84 rfl (fun w _ => iAdd _ _ _ _  w)) rfl rfl rfl ?_; intro r31_4 hr31_4
  refine doG_nil ?_
  refine tail_nil ?_
  refine doL_store 8 ty23 rfl rfl rfl rfl rfl rfl rfl rfl ?_
  refine doL_nil ?_
  refine post_block_normal ?_
  refine post_then ?_
  refine doC_region ?_
  refine doL_v (opV_add rfl rfl (by first | exact i64_in ⟨by omega, by omega⟩ | rfl)) rfl rfl rfl ?_
  refine doL_v (opV_move rfl) rfl rfl rfl ?_
  refine doL_nil ?_
  refine post_rounds ?_
  refine doR_succ ?_
  refine doC_seq ?_
  refine doC_region ?_
  refine doL_v (opV_lss rfl rfl) rfl rfl rfl ?_
  refine doL_nil ?_
  refine post_then ?_
  refine doC_seq ?_
  refine doC_cond_t rfl (by decide) ?_
  refine doC_skip ?_
  refine post_then ?_
  refine doC_seq ?_
  refine doC_block ?_
  refine doC_seq ?_
  refine doC_region ?_
  refine doL_v (opV_move rfl) rfl rfl rfl ?_
  refine doL_v (opV_assign rfl) rfl rfl rfl ?_
  refine doL_nil ?_
  refine post_then ?_
  refine doC_keep (ks := [2, 3, 4, 5, 6, 7, 8, 9, 10, 13, 16]) rfl ?_
  refine doC_drawn 13 mo (by kernel_rfl) ?_
  simp only [List.take_succ_cons, List.take_zero, List.drop_succ_cons, List.drop_zero]
  refine doG_v (opV_loadA 8 ty23 rfl rfl rfl) rfl rfl rfl ?_
  refine doG_v (opV_move rfl) rfl rfl rfl ?_
  refine doG_v (opV_move rfl) rfl rfl rfl ?_
  refine doG_v (opV_indexAddr ar28 rfl rfl (by first | decide | omega) (by first | decide | omega)) rfl rfl rfl ?_
  refine doG_v (opV_indexAddr ar26 rfl rfl (by first | decide | omega) (by first | decide | omega)) rfl rfl rfl ?_
  refine doG_v (opV_loadA 2 ty23 rfl rfl rfl) rfl rfl rfl ?_
  refine doG_v (opV_move rfl) rfl rfl rfl ?_
  refine doG_v (opV_move rfl) rfl rfl rfl ?_
  refine doG_v (opV_indexAddr ar28 rfl rfl (by first | decide | omega) (by first | decide | omega)) rfl rfl rfl ?_
  refine doG_v (opV_indexAddr ar26 rfl rfl (by first | decide | omega) (by first | decide | omega)) rfl rfl rfl ?_
  refine doG_v (opV_loadA 3 ty23 rfl rfl rfl) rfl rfl rfl ?_
  refine doG_vg (F := iv) (opV_call en85 rfl (fun w _ => iMul _ _ _ _  w)) rfl rfl rfl ?_; intro r30_5 hr30_5
  refine doG_vg (F := iv) (opV_call en84 rfl (fun w _ => iAdd _ _ _ _  w)) rfl rfl rfl ?_; intro r31_5 hr31_5
  refine doG_nil ?_
  refine tail_nil ?_
  refine doL_store 8 ty23 rfl rfl rfl rfl rfl rfl rfl rfl ?_
  refine doL_nil ?_
  refine post_block_normal ?_
  refine post_then ?_
  refine doC_region ?_
  refine doL_v (opV_add rfl rfl (by first | exact i64_in ⟨by omega, by omega⟩ | rfl)) rfl rfl rfl ?_
  refine doL_v (opV_move rfl) rfl rfl rfl ?_
  refine doL_nil ?_
  refine post_rounds ?_
  refine doR_succ ?_
  refine doC_seq ?_
  refine doC_region ?_
  refine doL_v (opV_lss rfl rfl) rfl rfl rfl ?_
  refine doL_nil ?_
  refine post_then ?_
  refine doC_seq ?_
  refine doC_cond_t rfl (by decide) ?_
  refine doC_skip ?_
  refine post_then ?_
  refine doC_seq ?_
  refine doC_block ?_
  refine doC_seq ?_
  refine doC_region ?_
  refine doL_v (opV_move rfl) rfl rfl rfl ?_
  refine doL_v (opV_assign rfl) rfl rfl rfl ?_
  refine doL_nil ?_
  refine post_then ?_
  refine doC_keep (ks := [2, 3, 4, 5, 6, 7, 8, 9, 10, 13, 16]) rfl ?_
  refine doC_drawn 13 mo (by kernel_rfl) ?_
  simp only [List.take_succ_cons, List.take_zero, List.drop_succ_cons, List.drop_zero]
  refine doG_v (opV_loadA 8 ty23 rfl rfl rfl) rfl rfl rfl ?_
  refine doG_v (opV_move rfl) rfl rfl rfl ?_
  refine doG_v (opV_move rfl) rfl rfl rfl ?_
  refine doG_v (opV_indexAddr ar28 rfl rfl (by first | decide | omega) (by first | decide | omega)) rfl rfl rfl ?_
  refine doG_v (opV_indexAddr ar26 rfl rfl (by first | decide | omega) (by first | decide | omega)) rfl rfl rfl ?_
  refine doG_v (opV_loadA 2 ty23 rfl rfl rfl) rfl rfl rfl ?_
  refine doG_v (opV_move rfl) rfl rfl rfl ?_
  refine doG_v (opV_move rfl) rfl rfl rfl ?_
  refine doG_v (opV_indexAddr ar28 rfl rfl (by first | decide | omega) (by first | decide | omega)) rfl rfl rfl ?_
  refine doG_v (opV_indexAddr ar26 rfl rfl (by first | decide | omega) (by first | decide | omega)) rfl rfl rfl ?_
  refine doG_v (opV_loadA 3 ty23 rfl rfl rfl) rfl rfl rfl ?_
  refine doG_vg (F := iv) (opV_call en85 rfl (fun w _ => iMul _ _ _ _  w)) rfl rfl rfl ?_; intro r30_6 hr30_6
  refine doG_vg (F := iv) (opV_call en84 rfl (fun w _ => iAdd _ _ _ _  w)) rfl rfl rfl ?_; intro r31_6 hr31_6
  refine doG_nil ?_
  refine tail_nil ?_
  refine doL_store 8 ty23 rfl rfl rfl rfl rfl rfl rfl rfl ?_
  refine doL_nil ?_
  refine post_block_normal ?_
  refine post_then ?_
  refine doC_region ?_
  refine doL_v (opV_add rfl rfl (by first | exact i64_in ⟨by omega, by omega⟩ | rfl)) rfl rfl rfl ?_
  refine doL_v (opV_move rfl) rfl rfl rfl ?_
  refine doL_nil ?_
  refine post_rounds ?_
  refine doR_succ ?_
  refine doC_seq ?_
  refine doC_region ?_
  refine doL_v (opV_lss rfl rfl) rfl rfl rfl ?_
  refine doL_nil ?_
  refine post_then ?_
  refine doC_seq ?_
  refine doC_cond_f rfl (by decide) ?_
  refine doC_exit ?_
  refine post_then_exit ?_
  refine post_then_exit ?_
  refine post_block_exit ?_
  refine post_then ?_
  refine doC_keep (ks := [2, 3, 4, 5, 6, 7, 8, 9, 10, 13, 16]) rfl ?_
  refine doC_drawn 11 mo (by kernel_rfl) ?_
  simp only [List.take_succ_cons, List.take_zero, List.drop_succ_cons, List.drop_zero]
  refine doG_v (opV_move rfl) rfl rfl rfl ?_
  refine doG_v (opV_move rfl) rfl rfl rfl ?_
  refine doG_v (opV_fieldAddr fa23_0 rfl) rfl rfl rfl ?_
  refine doG_v (opV_load1 8 ty2 rfl rfl rfl) rfl rfl rfl ?_
  refine doG_vg (F := vI) (opV_call en89 rfl (fun w _ => mLimited _  w)) rfl rfl rfl ?_; intro r37_2 hr37_2
  refine doG_v (opV_fieldAddr fa23_1 rfl) rfl rfl rfl ?_
  refine doG_v (opV_load1 8 ty2 rfl rfl rfl) rfl rfl rfl ?_
  refine doG_vg (F := vI) (opV_call en89 rfl (fun w _ => mLimited _  w)) rfl rfl rfl ?_; intro r40_2 hr40_2
  refine doG_v (opV_build la23 rfl rfl) rfl rfl rfl ?_
  refine doG_v (opV_indexAddr ar28 rfl rfl (by first | decide | omega) (by first | decide | omega)) rfl rfl rfl ?_
  refine doG_v (opV_indexAddr ar26 rfl rfl (by first | decide | omega) (by first | decide | omega)) rfl rfl rfl ?_
  refine doG_nil ?_
  refine tail_nil ?_
  refine doL_store 5 ty23 rfl rfl rfl rfl rfl rfl rfl rfl ?_
  refine doL_nil ?_
  refine post_block_normal ?_
  refine post_then ?_
  refine doC_region ?_
  refine doL_v (opV_add rfl rfl (by first | exact i64_in ⟨by omega, by omega⟩ | rfl)) rfl rfl rfl ?_
  refine doL_v (opV_move rfl) rfl rfl rfl ?_
  refine doL_nil ?_
  refine post_rounds ?_
  refine doR_succ ?_
  refine doC_seq ?_
  refine doC_region ?_
  refine doL_v (opV_lss rfl rfl) rfl rfl rfl ?_
  refine doL_nil ?_
  refine post_then ?_
  refine doC_seq ?_
  refine doC_cond_t rfl (by decide) ?_
  refine doC_skip ?_
  refine post_then ?_
  refine doC_seq ?_
  refine doC_block ?_
  refine doC_seq ?_
  refine doC_region ?_
  refine doL_v (opV_move rfl) rfl rfl rfl ?_
  refine doL_v (opV_assign rfl) rfl rfl rfl ?_
  refine doL_nil ?_
  refine post_then ?_
  refine doC_seq ?_
  refine doC_keepH (ks := [2, 3, 4, 5]) rfl ?_
  refine doC_region ?_
  refine doL_alloc 8 ze23 rfl rfl rfl ?_; intro b8_3
  refine doL_nil ?_
  refine post_then ?_
  refine doC_seq ?_
  refine doC_seq ?_
  refine doC_region ?_
  refine doL_v (opV_move rfl) rfl rfl rfl ?_
  refine doL_nil ?_
  refine post_then ?_
  refine doC_block ?_
  refine doC_rounds 4 ?_
  refine doR_succ ?_
  refine doC_seq ?_
  refine doC_region ?_
  refine doL_v (opV_lss rfl rfl) rfl rfl rfl ?_
  refine doL_nil ?_
  refine post_then ?_
  refine doC_seq ?_
  refine doC_cond_t rfl (by decide) ?_
  refine doC_skip ?_
  refine post_then ?_
  refine doC_seq ?_
  refine doC_block ?_
  refine doC_seq ?_
  refine doC_region ?_
  refine doL_v (opV_move rfl) rfl rfl rfl ?_
  refine doL_v (opV_assign rfl) rfl rfl rfl ?_
  refine doL_nil ?_
  refine post_then ?_
  refine doC_keep (ks := [2, 3, 4, 5, 6, 7, 8, 9, 10, 13, 16]) rfl ?_
  refine doC_drawn 13 mo (by kernel_rfl) ?_
  simp only [List.take_succ_cons, List.take_zero, List.drop_succ_cons, List.drop_zero]
  refine doG_v (opV_loadA 8 ty23 rfl rfl rfl) rfl rfl rfl ?_
  refine doG_v (opV_move rfl) rfl rfl rfl ?_
  refine doG_v (opV_move rfl) rfl rfl rfl ?_
  refine doG_v (opV_indexAddr ar28 rfl rfl (by first | decide | omega) (by first | decide | omega)) rfl rfl rfl ?_
  refine doG_v (opV_indexAddr ar26 rfl rfl (by first | decide | omega) (by first | decide | omega)) rfl rfl rfl ?_
  refine doG_v (opV_loadA 2 ty23 rfl rfl rfl) rfl rfl rfl ?_
  refine doG_v (opV_move rfl) rfl rfl rfl ?_
  refine doG_v (opV_move rfl) rfl rfl rfl ?_
  refine doG_v (opV_indexAddr ar28 rfl rfl (by first | decide | omega) (by first | decide | omega)) rfl rfl rfl ?_
  refine doG_v (opV_indexAddr ar26 rfl rfl (by first | decide | omega) (by first | decide | omega)) rfl rfl rfl ?_
  refine doG_v (opV_loadA 3 ty23 rfl rfl rfl) rfl rfl rfl ?_
  refine doG_vg (F := iv) (opV_call en85 rfl (fun w _ => iMul _ _ _ _  w)) rfl rfl rfl ?_; intro r30_7 hr30_7
  refine doG_vg (F := iv) (opV_call en84 rfl (fun w _ => iAdd _ _ _ _  w)) rfl rfl rfl ?_; intro r31_7 hr31_7
  refine doG_nil ?_
  refine tail_nil ?_
  refine doL_store 8 ty23 rfl rfl rfl rfl rfl rfl rfl rfl ?_
  refine doL_nil ?_
  refine post_block_normal ?_
  refine post_then ?_
  refine doC_region ?_
  refine doL_v (opV_add rfl rfl (by first | exact i64_in ⟨by omega, by omega⟩ | rfl)) rfl rfl rfl ?_
  refine doL_v (opV_move rfl) rfl rfl rfl ?_
  refine doL_nil ?_
  refine post_rounds ?_
  refine doR_succ ?_
  refine doC_seq ?_
  refine doC_region ?_
  refine doL_v (opV_lss rfl rfl) rfl rfl rfl ?_
  refine doL_nil ?_
  refine post_then ?_
  refine doC_seq ?_
  refine doC_cond_t rfl (by decide) ?_
  refine doC_skip ?_
  refine post_then ?_
  refine doC_seq ?_
  refine doC_block ?_
  refine doC_seq ?_
  refine doC_region ?_
  refine doL_v (opV_move rfl) rfl rfl rfl ?_
  refine doL_v (opV_assign rfl) rfl rfl rfl ?_
  refine doL_nil ?_
  refine post_then ?_
  refine doC_keep (ks := [2, 3, 4, 5, 6, 7, 8, 9, 10, 13, 16]) rfl ?_
  refine doC_drawn 13 mo (by kernel_rfl) ?_
  simp only [List.take_succ_cons, List.take_zero, List.drop_succ_cons, List.drop_zero]
  refine doG_v (opV_loadA 8 ty23 rfl rfl rfl) rfl rfl rfl ?_
  refine doG_v (opV_move rfl) rfl rfl rfl ?_
  refine doG_v (opV_move rfl) rfl rfl rfl ?_
  refine doG_v (opV_indexAddr ar28 rfl rfl (by first | decide | omega) (by first | decide | omega)) rfl rfl rfl ?_
  refine doG_v (opV_indexAddr ar26 rfl rfl (by first | decide | omega) (by first | decide | omega)) rfl rfl rfl ?_
  refine doG_v (opV_loadA 2 ty23 rfl rfl rfl) rfl rfl rfl ?_
  refine doG_v (opV_move rfl) rfl rfl rfl ?_
  refine doG_v (opV_move rfl) rfl rfl rfl ?_
  refine doG_v (opV_indexAddr ar28 rfl rfl (by first | decide | omega) (by first | decide | omega)) rfl rfl rfl ?_
  refine doG_v (opV_indexAddr ar26 rfl rfl (by first | decide | omega) (by first | decide | omega)) rfl rfl rfl ?_
  refine doG_v (opV_loadA 3 ty23 rfl rfl rfl) rfl rfl rfl ?_
  refine doG_vg (F := iv) (opV_call en85 rfl (fun w _ => iMul _ _ _ _  w)) rfl rfl rfl ?_; intro r30_8 hr30_8
  refine doG_vg (F := iv) (opV_call en84 rfl (fun w _ => iAdd _ _ _ _  w)) rfl rfl rfl ?_; intro r31_8 hr31_8
  refine doG_nil ?_
  refine tail_nil ?_
  refine doL_store 8 ty23 rfl rfl rfl rfl rfl rfl rfl rfl ?_
  refine doL_nil ?_
  refine post_block_normal ?_
  refine post_then ?_
  refine doC_region ?_
  refine doL_v (opV_add rfl rfl (by first | exact i64_in ⟨by omega, by omega⟩ | rfl)) rfl rfl rfl ?_
  refine doL_v (opV_move rfl) rfl rfl rfl ?_
  refine doL_nil ?_
  refine post_rounds ?_
  refine doR_succ ?_
  refine doC_seq ?_
  refine doC_region ?_
  refine doL_v (opV_lss rfl rfl) rfl rfl rfl ?_
  refine doL_nil ?_
  refine post_then ?_
  refine doC_seq ?_
  refine doC_cond_t rfl (by decide) ?_
  refine doC_skip ?_
  refine post_then ?_
  refine doC_seq ?_
  refine doC_block ?_
  refine doC_seq ?_
  refine doC_region ?_
  refine doL_v (opV_move rfl) rfl rfl rfl ?_
  refine doL_v (opV_assign rfl) rfl rfl rfl ?_
  refine doL_nil ?_
  refine post_then ?_
  refine doC_keep (ks := [2, 3, 4, 5, 6, 7, 8, 9, 10, 13, 16]) rfl ?_
  refine doC_drawn 13 mo (by kernel_rfl) ?_
  simp only [List.take_succ_cons, List.take_zero, List.drop_succ_cons, List.drop_zero]
  refine doG_v (opV_loadA 8 ty23 rfl rfl rfl) rfl rfl rfl ?_
  refine doG_v (opV_move rfl) rfl rfl rfl ?_
  refine doG_v (opV_move rfl) rfl rfl rfl ?_
  refine doG_v (opV_indexAddr ar28 rfl rfl (by first | decide | omega) (by first | decide | omega)) rfl rfl rfl ?_
  refine doG_v (opV_indexAddr ar26 rfl rfl (by first | decide | omega) (by first | decide | omega)) rfl rfl rfl ?_
  refine doG_v (opV_loadA 2 ty23 rfl rfl rfl) rfl rfl rfl ?_
  refine doG_v (opV_move rfl) rfl rfl rfl ?_
  refine doG_v (opV_move rfl) rfl rfl rfl ?_
  refine doG_v (opV_indexAddr ar28 rfl rfl (by first | decide | omega) (by first | decide | omega)) rfl rfl rfl ?_
  refine doG_v (opV_indexAddr ar26 rfl rfl (by first | decide | omega) (by first | decide | omega)) rfl rfl rfl ?_
  refine doG_v (opV_loadA 3 ty23 rfl rfl rfl) rfl rfl rfl ?_
  refine doG_vg (F := iv) (opV_call en85 rfl (fun w _ => iMul _ _ _ _  w)) rfl rfl rfl ?_; intro r30_9 hr30_9
  refine doG_vg (F := iv) (opV_call en84 rfl (fun w _ => iAdd _ _ _ _  w)) rfl rfl rfl ?_; intro r31_9 hr31_9
  refine doG_nil ?_
  refine tail_nil ?_
  refine doL_store 8 ty23 rfl rfl rfl rfl rfl rfl rfl rfl ?_
  refine doL_nil ?_
  refine post_block_normal ?_
  refine post_then ?_
  refine doC_region ?_
  refine doL_v (opV_add rfl rfl (by first | exact i64_in ⟨by omega, by omega⟩ | rfl)) rfl rfl rfl ?_
  refine doL_v (opV_move rfl) rfl rfl rfl ?_
  refine doL_nil ?_
  refine post_rounds ?_
  refine doR_succ ?_
  refine doC_seq ?_
  refine doC_region ?_
  refine doL_v (opV_lss rfl rfl) rfl rfl rfl ?_
  refine doL_nil ?_
  refine post_then ?_
  refine doC_seq ?_
  refine doC_cond_f rfl (by decide) ?_
  refine doC_exit ?_
  refine post_then_exit ?_
  refine post_then_exit ?_
  refine post_block_exit ?_
  refine post_then ?_
  refine doC_keep (ks := [2, 3, 4, 5, 6, 7, 8, 9, 10, 13, 16]) rfl ?_
  refine doC_drawn 11 mo (by kernel_rfl) ?_
  simp only [List.take_succ_cons, List.take_zero, List.drop_succ_cons, List.drop_zero]
  refine doG_v (opV_move rfl) rfl rfl rfl ?_
  refine doG_v (opV_move rfl) rfl rfl rfl ?_
  refine doG_v (opV_fieldAddr fa23_0 rfl) rfl rfl rfl ?_
  refine doG_v (opV_load1 8 ty2 rfl rfl rfl) rfl rfl rfl ?_
  refine doG_vg (F := vI) (opV_call en89 rfl (fun w _ => mLimited _  w)) rfl rfl rfl ?_; intro r37_3 hr37_3
  refine doG_v (opV_fieldAddr fa23_1 rfl) rfl rfl rfl ?_
  refine doG_v (opV_load1 8 ty2 rfl rfl rfl) rfl rfl rfl ?_
  refine doG_vg (F := vI) (opV_call en89 rfl (fun w _ => mLimited _  w)) rfl rfl rfl ?_; intro r40_3 hr40_3
  refine doG_v (opV_build la23 rfl rfl) rfl rfl rfl ?_
  refine doG_v (opV_indexAddr ar28 rfl rfl (by first | decide | omega) (by first | decide | omega)) rfl rfl rfl ?_
  refine doG_v (opV_indexAddr ar26 rfl rfl (by first | decide | omega) (by first | decide | omega)) rfl rfl rfl ?_
  refine doG_nil ?_
  refine tail_nil ?_
  refine doL_store 5 ty23 rfl rfl rfl rfl rfl rfl rfl rfl ?_
  refine doL_nil ?_
  refine post_block_normal ?_
  refine post_then ?_
  refine doC_region ?_
  refine doL_v (opV_add rfl rfl (by first | exact i64_in ⟨by omega, by omega⟩ | rfl)) rfl rfl rfl ?_
  refine doL_v (opV_move rfl) rfl rfl rfl ?_
  refine doL_nil ?_
  refine post_rounds ?_
  refine doR_succ ?_
  refine doC_seq ?_
  refine doC_region ?_
  refine doL_v (opV_lss rfl rfl) rfl rfl rfl ?_
  refine doL_nil ?_
  refine post_then ?_
  refine doC_seq ?_
  refine doC_cond_f rfl (by decide) ?_
  refine doC_exit ?_
  refine post_then_exit ?_
  refine post_then_exit ?_
  refine post_block_exit ?_
  refine post_block_normal ?_
  refine post_then ?_
  refine doC_region ?_
  refine doL_v (opV_add rfl rfl (by first | exact i64_in ⟨by omega, by omega⟩ | rfl)) rfl rfl rfl ?_
  refine doL_v (opV_move rfl) rfl rfl rfl ?_
  refine doL_nil ?_
  refine post_rounds ?_
  refine doR_succ ?_
  refine doC_seq ?_
  refine doC_region ?_
  refine doL_v (opV_lss rfl rfl) rfl rfl rfl ?_
  refine doL_nil ?_
  refine post_then ?_
  refine doC_seq ?_
  refine doC_cond_t rfl (by decide) ?_
  refine doC_skip ?_
  refine post_then ?_
  refine doC_seq ?_
  refine doC_block ?_
  refine doC_seq ?_
  refine doC_region ?_
  refine doL_v (opV_move rfl) rfl rfl rfl ?_
  refine doL_v (opV_assign rfl) rfl rfl rfl ?_
  refine doL_nil ?_
  refine post_then ?_
  refine doC_seq ?_
  refine doC_region ?_
  refine doL_v (opV_move rfl) rfl rfl rfl ?_
  refine doL_nil ?_
  refine post_then ?_
  refine doC_block ?_
  refine doC_rounds 4 ?_
  refine doR_succ ?_
  refine doC_seq ?_
  refine doC_region ?_
  refine doL_v (opV_lss rfl rfl) rfl rfl rfl ?_
  refine doL_nil ?_
  refine post_then ?_
  refine doC_seq ?_
  refine doC_cond_t rfl (by decide) ?_
  refine doC_skip ?_
  refine post_then ?_
  refine doC_seq ?_
  refine doC_block ?_
  refine doC_seq ?_
  refine doC_region ?_
  refine doL_v (opV_move rfl) rfl rfl rfl ?_
  refine doL_v (opV_assign rfl) rfl rfl rfl ?_
  refine doL_nil ?_
  refine post_then ?_
  refine doC_seq ?_
  refine doC_keepH (ks := [2, 3, 4, 5]) rfl ?_
  refine doC_region ?_
  refine doL_alloc 8 ze23 rfl rfl rfl ?_; intro b8_4
  refine doL_nil ?_
  refine post_then ?_
  refine doC_seq ?_
  refine doC_seq ?_
  refine doC_region ?_
  refine doL_v (opV_move rfl) rfl rfl rfl ?_
  refine doL_nil ?_
  refine post_then ?_
  refine doC_block ?_
  refine doC_rounds 4 ?_
  refine doR_succ ?_
  refine doC_seq ?_
  refine doC_region ?_
  refine doL_v (opV_lss rfl rfl) rfl rfl rfl ?_
  refine doL_nil ?_
  refine post_then ?_
  refine doC_seq ?_
  refine doC_cond_t rfl (by decide) ?_
  refine doC_skip ?_
  refine post_then ?_
  refine doC_seq ?_
  refine doC_block ?_
  refine doC_seq ?_
  refine doC_region ?_
  refine doL_v (opV_move rfl) rfl rfl rfl ?_
  refine doL_v (opV_assign rfl) rfl rfl rfl ?_
  refine doL_nil ?_
  refine post_then ?_
  refine doC_keep (ks := [2, 3, 4, 5, 6, 7, 8, 9, 10, 13, 16]) rfl ?_
  refine doC_drawn 13 mo (by kernel_rfl) ?_
  simp only [List.take_succ_cons, List.take_zero, List.drop_succ_cons, List.drop_zero]
  refine doG_v (opV_loadA 8 ty23 rfl rfl rfl) rfl rfl rfl ?_
  refine doG_v (opV_move rfl) rfl rfl rfl ?_
  refine doG_v (opV_move rfl) rfl rfl rfl ?_
  refine doG_v (opV_indexAddr ar28 rfl rfl (by first | decide | omega) (by first | decide | omega)) rfl rfl rfl ?_
  refine doG_v (opV_indexAddr ar26 rfl rfl (by first | decide | omega) (by first | decide | omega)) rfl rfl rfl ?_
  refine doG_v (opV_loadA 2 ty23 rfl rfl rfl) rfl rfl rfl ?_
  refine doG_v (opV_move rfl) rfl rfl rfl ?_
  refine doG_v (opV_move rfl) rfl rfl rfl ?_
  refine doG_v (opV_indexAddr ar28 rfl rfl (by first | decide | omega) (by first | decide | omega)) rfl rfl rfl ?_
  refine doG_v (opV_indexAddr ar26 rfl rfl (by first | decide | omega) (by first | decide | omega)) rfl rfl rfl ?_
  refine doG_v (opV_loadA 3 ty23 rfl rfl rfl) rfl rfl rfl ?_
  refine doG_vg (F := iv) (opV_call en85 rfl (fun w _ => iMul _ _ _ _  w)) rfl rfl rfl ?_; intro r30_10 hr30_10
  refine doG_vg (F := iv) (opV_call en84 rfl (fun w _ => iAdd _ _ _ _  w)) rfl rfl rfl ?_; intro r31_10 hr31_10
  refine doG_nil ?_
  refine tail_nil ?_
  refine doL_store 8 ty23 rfl rfl rfl rfl rfl rfl rfl rfl ?_
  refine doL_nil ?_
  refine post_block_normal ?_
  refine post_then ?_
  refine doC_region ?_
  refine doL_v (opV_add rfl rfl (by first | exact i64_in ⟨by omega, by omega⟩ | rfl)) rfl rfl rfl ?_
  refine doL_v (opV_move rfl) rfl rfl rfl ?_
  refine doL_nil ?_
  refine post_rounds ?_
  refine doR_succ ?_
  refine doC_seq ?_
  refine doC_region ?_
  refine doL_v (opV_lss rfl rfl) rfl rfl rfl ?_
  refine doL_nil ?_
  refine post_then ?_
  refine doC_seq ?_
  refine doC_cond_t rfl (by decide) ?_
  refine doC_skip ?_
  refine post_then ?_
  refine doC_seq ?_
  refine doC_block ?_
  refine doC_seq ?_
  refine doC_region ?_
  refine doL_v (opV_move rfl) rfl rfl rfl ?_
  refine doL_v (opV_assign rfl) rfl rfl rfl ?_
  refine doL_nil ?_
  refine post_then ?_
  refine doC_keep (ks := [2, 3, 4, 5, 6, 7, 8, 9, 10, 13, 16]) rfl ?_
  refine doC_drawn 13 mo (by kernel_rfl) ?_
  simp only [List.take_succ_cons, List.take_zero, List.drop_succ_cons, List.drop_zero]
  refine doG_v (opV_loadA 8 ty23 rfl rfl rfl) rfl rfl rfl ?_
  refine doG_v (opV_move rfl) rfl rfl rfl ?_
  refine doG_v (opV_move rfl) rfl rfl rfl ?_
  refine doG_v (opV_indexAddr ar28 rfl rfl (by first | decide | omega) (by first | decide | omega)) rfl rfl rfl ?_
  refine doG_v (opV_indexAddr ar26 rfl rfl (by first | decide | omega) (by first | decide | omega)) rfl rfl rfl ?_
  refine doG_v (opV_loadA 2 ty23 rfl rfl rfl) rfl rfl rfl ?_
  refine doG_v (opV_move rfl) rfl rfl rfl ?_
  refine doG_v (opV_move rfl) rfl rfl rfl ?_
  refine doG_v (opV_indexAddr ar28 rfl rfl (by first | decide | omega) (by first | decide | omega)) rfl rfl rfl ?_
  refine doG_v (opV_indexAddr ar26 rfl rfl (by first | decide | omega) (by first | decide | omega)) rfl rfl rfl ?_
  refine doG_v (opV_loadA 3 ty23 rfl rfl rfl) rfl rfl rfl ?_
  refine doG_vg (F := iv) (opV_call en85 rfl (fun w _ => iMul _ _ _ _  w)) rfl rfl rfl ?_; intro r30_11 hr30_11
  refine doG_vg (F := iv) (opV_call en84 rfl (fun w _ => iAdd _ _ _ _  w)) rfl rfl rfl ?_; intro r31_11 hr31_11
  refine doG_nil ?_
  refine tail_nil ?_
  refine doL_store 8 ty23 rfl rfl rfl rfl rfl rfl rfl rfl ?_
  refine doL_nil ?_
  refine post_block_normal ?_
  refine post_then ?_
  refine doC_region ?_
  refine doL_v (opV_add rfl rfl (by first | exact i64_in ⟨by omega, by omega⟩ | rfl)) rfl rfl rfl ?_
  refine doL_v (opV_move rfl) rfl rfl rfl ?_
  refine doL_nil ?_
  refine post_rounds ?_
  refine doR_succ ?_
  refine doC_seq ?_
  refine doC_region ?_
  refine doL_v (opV_lss rfl rfl) rfl rfl rfl ?_
  refine doL_nil ?_
  refine post_then ?_
  refine doC_seq ?_
  refine doC_cond_t rfl (by decide) ?_
  refine doC_skip ?_
  refine post_then ?_
  refine doC_seq ?_
  refine doC_block ?_
  refine doC_seq ?_
  refine doC_region ?_
  refine doL_v (opV_move rfl) rfl rfl rfl ?_
  refine doL_v (opV_assign rfl) rfl rfl rfl ?_
  refine doL_nil ?_
  refine post_then ?_
  refine doC_keep (ks := [2, 3, 4, 5, 6, 7, 8, 9, 10, 13, 16]) rfl ?_
  refine doC_drawn 13 mo (by kernel_rfl) ?_
  simp only [List.take_succ_cons, List.take_zero, List.drop_succ_cons, List.drop_zero]
  refine doG_v (opV_loadA 8 ty23 rfl rfl rfl) rfl rfl rfl ?_
  refine doG_v (opV_move rfl) rfl rfl rfl ?_
  refine doG_v (opV_move rfl) rfl rfl rfl ?_
  refine doG_v (opV_indexAddr ar28 rfl rfl (by first | decide | omega) (by first | decide | omega)) rfl rfl rfl ?_
  refine doG_v (opV_indexAddr ar26 rfl rfl (by first | decide | omega) (by first | decide | omega)) rfl rfl rfl ?_
  refine doG_v (opV_loadA 2 ty23 rfl rfl rfl) rfl rfl rfl ?_
  refine doG_v (opV_move rfl) rfl rfl rfl ?_
  refine doG_v (opV_move rfl) rfl rfl rfl ?_
  refine doG_v (opV_indexAddr ar28 rfl rfl (by first | decide | omega) (by first | decide | omega)) rfl rfl rfl ?_
  refine doG_v (opV_indexAddr ar26 rfl rfl (by first | decide | omega) (by first | decide | omega)) rfl rfl rfl ?_
  refine doG_v (opV_loadA 3 ty23 rfl rfl rfl) rfl rfl rfl ?_
  refine doG_vg (F := iv) (opV_call en85 rfl (fun w _ => iMul _ _ _ _  w)) rfl rfl rfl ?_; intro r30_12 hr30_12
  refine doG_vg (F := iv) (opV_call en84 rfl (fun w _ => iAdd _ _ _ _  w)) rfl rfl rfl ?_; intro r31_12 hr31_12
  refine doG_nil ?_
  refine tail_nil ?_
  refine doL_store 8 ty23 rfl rfl rfl rfl rfl rfl rfl rfl ?_
  refine doL_nil ?_
  refine post_block_normal ?_
  refine post_then ?_
  refine doC_region ?_
  refine doL_v (opV_add rfl rfl (by first | exact i64_in ⟨by omega, by omega⟩ | rfl)) rfl rfl rfl ?_
  refine doL_v (opV_move rfl) rfl rfl rfl ?_
  refine doL_nil ?_
  refine post_rounds ?_
  refine doR_succ ?_
  refine doC_seq ?_
  refine doC_region ?_
  refine doL_v (opV_lss rfl rfl) rfl rfl rfl ?_
  refine doL_nil ?_
  refine post_then ?_
  refine doC_seq ?_
  refine doC_cond_f rfl (by decide) ?_
  refine doC_exit ?_
  refine post_then_exit ?_
  refine post_then_exit ?_
  refine post_block_exit ?_
  refine post_then ?_
  refine doC_keep (ks := [2, 3, 4, 5, 6, 7, 8, 9, 10, 13, 16]) rfl ?_
  refine doC_drawn 11 mo (by kernel_rfl) ?_
  simp only [List.take_succ_cons, List.take_zero, List.drop_succ_cons, List.drop_zero]
  refine doG_v (opV_move rfl) rfl rfl rfl ?_
  refine doG_v (opV_move rfl) rfl rfl rfl ?_
  refine doG_v (opV_fieldAddr fa23_0 rfl) rfl rfl rfl ?_
  refine doG_v (opV_load1 8 ty2 rfl rfl rfl) rfl rfl rfl ?_
  refine doG_vg (F := vI) (opV_call en89 rfl (fun w _ => mLimited _  w)) rfl rfl rfl ?_; intro r37_4 hr37_4
  refine doG_v (opV_fieldAddr fa23_1 rfl) rfl rfl rfl ?_
  refine doG_v (opV_load1 8 ty2 rfl rfl rfl) rfl rfl rfl ?_
  refine doG_vg (F := vI) (opV_call en89 rfl (fun w _ => mLimited _  w)) rfl rfl rfl ?_; intro r40_4 hr40_4
  refine doG_v (opV_build la23 rfl rfl) rfl rfl rfl ?_
  refine doG_v (opV_indexAddr ar28 rfl rfl (by first | decide | omega) (by first | decide | omega)) rfl rfl rfl ?_
  refine doG_v (opV_indexAddr ar26 rfl rfl (by first | decide | omega) (by first | decide | omega)) rfl rfl rfl ?_
  refine doG_nil ?_
  refine tail_nil ?_
  refine doL_store 5 ty23 rfl rfl rfl rfl rfl rfl rfl rfl ?_
  refine doL_nil ?_
  refine post_block_normal ?_
  refine post_then ?_
  refine doC_region ?_
  refine doL_v (opV_add rfl rfl (by first | exact i64_in ⟨by omega, by omega⟩ | rfl)) rfl rfl rfl ?_
  refine doL_v (opV_move rfl) rfl rfl rfl ?_
  refine doL_nil ?_
  refine post_rounds ?_
  refine doR_succ ?_
  refine doC_seq ?_
  refine doC_region ?_
  refine doL_v (opV_lss rfl rfl) rfl rfl rfl ?_
  refine doL_nil ?_
  refine post_then ?_
  refine doC_seq ?_
  refine doC_cond_t rfl (by decide) ?_
  refine doC_skip ?_
  refine post_then ?_
  refine doC_seq ?_
  refine doC_block ?_
  refine doC_seq ?_
  refine doC_region ?_
  refine doL_v (opV_move rfl) rfl rfl rfl ?_
  refine doL_v (opV_assign rfl) rfl rfl rfl ?_
  refine doL_nil ?_
  refine post_then ?_
  refine doC_seq ?_
  refine doC_keepH (ks := [2, 3, 4, 5]) rfl ?_
  refine doC_region ?_
  refine doL_alloc 8 ze23 rfl rfl rfl ?_; intro b8_5
  refine doL_nil ?_
  refine post_then ?_
  refine doC_seq ?_
  refine doC_seq ?_
  refine doC_region ?_
  refine doL_v (opV_move rfl) rfl rfl rfl ?_
  refine doL_nil ?_
  refine post_then ?_
  refine doC_block ?_
  refine doC_rounds 4 ?_
  refine doR_succ ?_
  refine doC_seq ?_
  refine doC_region ?_
  refine doL_v (opV_lss rfl rfl) rfl rfl rfl ?_
  refine doL_nil ?_
  refine post_then ?_
  refine doC_seq ?_
  refine doC_cond_t rfl (by decide) ?_
  refine doC_skip ?_
  refine post_then ?_
  refine doC_seq ?_
  refine doC_block ?_
  refine doC_seq ?_
  refine doC_region ?_
  refine doL_v (opV_move rfl) rfl rfl rfl ?_
  refine doL_v (opV_assign rfl) rfl rfl rfl ?_
  refine doL_nil ?_
  refine post_then ?_
  refine doC_keep (ks := [2, 3, 4, 5, 6, 7, 8, 9, 10, 13, 16]) rfl ?_
  refine doC_drawn 13 mo (by kernel_rfl) ?_
  simp only [List.take_succ_cons, List.take_zero, List.drop_succ_cons, List.drop_zero]
  refine doG_v (opV_loadA 8 ty23 rfl rfl rfl) rfl rfl rfl ?_
  refine doG_v (opV_move rfl) rfl rfl rfl ?_
  refine doG_v (opV_move rfl) rfl rfl rfl ?_
  refine doG_v (opV_indexAddr ar28 rfl rfl (by first | decide | omega) (by first | decide | omega)) rfl rfl rfl ?_
  refine doG_v (opV_indexAddr ar26 rfl rfl (by first | decide | omega) (by first | decide | omega)) rfl rfl rfl ?_
  refine doG_v (opV_loadA 2 ty23 rfl rfl rfl) rfl rfl rfl ?_
  refine doG_v (opV_move rfl) rfl rfl rfl ?_
  refine doG_v (opV_move rfl) rfl rfl rfl ?_
  refine doG_v (opV_indexAddr ar28 rfl rfl (by first | decide | omega) (by first | decide | omega)) rfl rfl rfl ?_
  refine doG_v (opV_indexAddr ar26 rfl rfl (by first | decide | omega) (by first | decide | omega)) rfl rfl rfl ?_
  refine doG_v (opV_loadA 3 ty23 rfl rfl rfl) rfl rfl rfl ?_
  refine doG_vg (F := iv) (opV_call en85 rfl (fun w _ => iMul _ _ _ _  w)) rfl rfl rfl ?_; intro r30_13 hr30_13
  refine doG_vg (F := iv) (opV_call en84 rfl (fun w _ => iAdd _ _ _ _  w)) rfl rfl rfl ?_; intro r31_13 hr31_13
  refine doG_nil ?_
  refine tail_nil ?_
  refine doL_store 8 ty23 rfl rfl rfl rfl rfl rfl rfl rfl ?_
  refine doL_nil ?_
  refine post_block_normal ?_
  refine post_then ?_
  refine doC_region ?_
  refine doL_v (opV_add rfl rfl (by first | exact i64_in ⟨by omega, by omega⟩ | rfl)) rfl rfl rfl ?_
  refine doL_v (opV_move rfl) rfl rfl rfl ?_
  refine doL_nil ?_
  refine post_rounds ?_
  refine doR_succ ?_
  refine doC_seq ?_
  refine doC_region ?_
  refine doL_v (opV_lss rfl rfl) rfl rfl rfl ?_
  refine doL_nil ?_
  refine post_then ?_
  refine doC_seq ?_
  refine doC_cond_t rfl (by decide) ?_
  refine doC_skip ?_
  refine post_then ?_
  refine doC_seq ?_
  refine doC_block ?_
  refine doC_seq ?_
  refine doC_region ?_
  refine doL_v (opV_move rfl) rfl rfl rfl ?_
  refine doL_v (opV_assign rfl) rfl rfl rfl ?_
  refine doL_nil ?_
  refine post_then ?_
  refine doC_keep (ks := [2, 3, 4, 5, 6, 7, 8, 9, 10, 13, 16]) rfl ?_
  refine doC_drawn 13 mo (by kernel_rfl) ?_
  simp only [List.take_succ_cons, List.take_zero, List.drop_succ_cons, List.drop_zero]
  refine doG_v (opV_loadA 8 ty23 rfl rfl rfl) rfl rfl rfl ?_
  refine doG_v (opV_move rfl) rfl rfl rfl ?_
  refine doG_v (opV_move rfl) rfl rfl rfl ?_
  refine doG_v (opV_indexAddr ar28 rfl rfl (by first | decide | omega) (by first | decide | omega)) rfl rfl rfl ?_
  refine doG_v (opV_indexAddr ar26 rfl rfl (by first | decide | omega) (by first | decide | omega)) rfl rfl rfl ?_
  refine doG_v (opV_loadA 2 ty23 rfl rfl rfl) rfl rfl rfl ?_
  refine doG_v (opV_move rfl) rfl rfl rfl ?_
  refine doG_v (opV_move rfl) rfl rfl rfl ?_
  refine doG_v (opV_indexAddr ar28 rfl rfl (by first | decide | omega) (by first | decide | omega)) rfl rfl rfl ?_
  refine doG_v (opV_indexAddr ar26 rfl rfl (by first | decide | omega) (by first | decide | omega)) rfl rfl rfl ?_
  refine doG_v (opV_loadA 3 ty23 rfl rfl rfl) rfl rfl rfl ?_
  refine doG_vg (F := iv) (opV_call en85 rfl (fun w _ => iMul _ _ _ _  w)) rfl rfl rfl ?_; intro r30_14 hr30_14
  refine doG_vg (F := iv) (opV_call en84 rfl (fun w _ => iAdd _ _ _ _  w)) rfl rfl rfl ?_; intro r31_14 hr31_14
  refine doG_nil ?_
  refine tail_nil ?_
  refine doL_store 8 ty23 rfl rfl rfl rfl rfl rfl rfl rfl ?_
  refine doL_nil ?_
  refine post_block_normal ?_
  refine post_then ?_
  refine doC_region ?_
  refine doL_v (opV_add rfl rfl (by first | exact i64_in ⟨by omega, by omega⟩ | rfl)) rfl rfl rfl ?_
  refine doL_v (opV_move rfl) rfl rfl rfl ?_
  refine doL_nil ?_
  refine post_rounds ?_
  refine doR_succ ?_
  refine doC_seq ?_
  refine doC_region ?_
  refine doL_v (opV_lss rfl rfl) rfl rfl rfl ?_
  refine doL_nil ?_
  refine post_then ?_
  refine doC_seq ?_
  refine doC_cond_t rfl (by decide) ?_
  refine doC_skip ?_
  refine post_then ?_
  refine doC_seq ?_
  refine doC_block ?_
  refine doC_seq ?_
  refine doC_region ?_
  refine doL_v (opV_move rfl) rfl rfl rfl ?_
  refine doL_v (opV_assign rfl) rfl rfl rfl ?_
  refine doL_nil ?_
  refine post_then ?_
  refine doC_keep (ks := [2, 3, 4, 5, 6, 7, 8, 9, 10, 13, 16]) rfl ?_
  refine doC_drawn 13 mo (by kernel_rfl) ?_
  simp only [List.take_succ_cons, List.take_zero, List.drop_succ_cons, List.drop_zero]
  refine doG_v (opV_loadA 8 ty23 rfl rfl rfl) rfl rfl rfl ?_
  refine doG_v (opV_move rfl) rfl rfl rfl ?_
  refine doG_v (opV_move rfl) rfl rfl rfl ?_
  refine doG_v (opV_indexAddr ar28 rfl rfl (by first | decide | omega) (by first | decide | omega)) rfl rfl rfl ?_
  refine doG_v (opV_indexAddr ar26 rfl rfl (by first | decide | omega) (by first | decide | omega)) rfl rfl rfl ?_
  refine doG_v (opV_loadA 2 ty23 rfl rfl rfl) rfl rfl rfl ?_
  refine doG_v (opV_move rfl) rfl rfl rfl ?_
  refine doG_v (opV_move rfl) rfl rfl rfl ?_
  refine doG_v (opV_indexAddr ar28 rfl rfl (by first | decide | omega) (by first | decide | omega)) rfl rfl rfl ?_
  refine doG_v (opV_indexAddr ar26 rfl rfl (by first | decide | omega) (by first | decide | omega)) rfl rfl rfl ?_
  refine doG_v (opV_loadA 3 ty23 rfl rfl rfl) rfl rfl rfl ?_
  refine doG_vg (F := iv) (opV_call en85 rfl (fun w _ => iMul _ _ _ _  w)) rfl rfl rfl ?_; intro r30_15 hr30_15
  refine doG_vg (F := iv) (opV_call en84 rfl (fun w _ => iAdd _ _ _ _  w)) rfl rfl rfl ?_; intro r31_15 hr31_15
  refine doG_nil ?_
  refine tail_nil ?_
  refine doL_store 8 ty23 rfl rfl rfl rfl rfl rfl rfl rfl ?_
  refine doL_nil ?_
  refine post_block_normal ?_
  refine post_then ?_
  refine doC_region ?_
  refine doL_v (opV_add rfl rfl (by first | exact i64_in ⟨by omega, by omega⟩ | rfl)) rfl rfl rfl ?_
  refine doL_v (opV_move rfl) rfl rfl rfl ?_
  refine doL_nil ?_
  refine post_rounds ?_
  refine doR_succ ?_
  refine doC_seq ?_
  refine doC_region ?_
  refine doL_v (opV_lss rfl rfl) rfl rfl rfl ?_
  refine doL_nil ?_
  refine post_then ?_
  refine doC_seq ?_
  refine doC_cond_f rfl (by decide) ?_
  refine doC_exit ?_
  refine post_then_exit ?_
  refine post_then_exit ?_
  refine post_block_exit ?_
  refine post_then ?_
  refine doC_keep (ks := [2, 3, 4, 5, 6, 7, 8, 9, 10, 13, 16]) rfl ?_
  refine doC_drawn 11 mo (by kernel_rfl) ?_
  simp only [List.take_succ_cons, List.take_zero, List.drop_succ_cons, List.drop_zero]
  refine doG_v (opV_move rfl) rfl rfl rfl ?_
  refine doG_v (opV_move rfl) rfl rfl rfl ?_
  refine doG_v (opV_fieldAddr fa23_0 rfl) rfl rfl rfl ?_
  refine doG_v (opV_load1 8 ty2 rfl rfl rfl) rfl rfl rfl ?_
  refine doG_vg (F := vI) (opV_call en89 rfl (fun w _ => mLimited _  w)) rfl rfl rfl ?_; intro r37_5 hr37_5
  refine doG_v (opV_fieldAddr fa23_1 rfl) rfl rfl rfl ?_
  refine doG_v (opV_load1 8 ty2 rfl rfl rfl) rfl rfl rfl ?_
  refine doG_vg (F := vI) (opV_call en89 rfl (fun w _ => mLimited _  w)) rfl rfl rfl ?_; intro r40_5 hr40_5
  refine doG_v (opV_build la23 rfl rfl) rfl rfl rfl ?_
  refine doG_v (opV_indexAddr ar28 rfl rfl (by first | decide | omega) (by first | decide | omega)) rfl rfl rfl ?_
  refine doG_v (opV_indexAddr ar26 rfl rfl (by first | decide | omega) (by first | decide | omega)) rfl rfl rfl ?_
  refine doG_nil ?_
  refine tail_nil ?_
  refine doL_store 5 ty23 rfl rfl rfl rfl rfl rfl rfl rfl ?_
  refine doL_nil ?_
  refine post_block_normal ?_
  refine post_then ?_
  refine doC_region ?_
  refine doL_v (opV_add rfl rfl (by first | exact i64_in ⟨by omega, by omega⟩ | rfl)) rfl rfl rfl ?_
  refine doL_v (opV_move rfl) rfl rfl rfl ?_
  refine doL_nil ?_
  refine post_rounds ?_
  refine doR_succ ?_
  refine doC_seq ?_
  refine doC_region ?_
  refine doL_v (opV_lss rfl rfl) rfl rfl rfl ?_
  refine doL_nil ?_
  refine post_then ?_
  refine doC_seq ?_
  refine doC_cond_t rfl (by decide) ?_
  refine doC_skip ?_
  refine post_then ?_
  refine doC_seq ?_
  refine doC_block ?_
  refine doC_seq ?_
  refine doC_region ?_
  refine doL_v (opV_move rfl) rfl rfl rfl ?_
  refine doL_v (opV_assign rfl) rfl rfl rfl ?_
  refine doL_nil ?_
  refine post_then ?_
  refine doC_seq ?_
  refine doC_keepH (ks := [2, 3, 4, 5]) rfl ?_
  refine doC_region ?_
  refine doL_alloc 8 ze23 rfl rfl rfl ?_; intro b8_6
  refine doL_nil ?_
  refine post_then ?_
  refine doC_seq ?_
  refine doC_seq ?_
  refine doC_region ?_
  refine doL_v (opV_move rfl) rfl rfl rfl ?_
  refine doL_nil ?_
  refine post_then ?_
  refine doC_block ?_
  refine doC_rounds 4 ?_
  refine doR_succ ?_
  refine doC_seq ?_
  refine doC_region ?_
  refine doL_v (opV_lss rfl rfl) rfl rfl rfl ?_
  refine doL_nil ?_
  refine post_then ?_
  refine doC_seq ?_
  refine doC_cond_t rfl (by decide) ?_
  refine doC_skip ?_
  refine post_then ?_
  refine doC_seq ?_
  refine doC_block ?_
  refine doC_seq ?_
  refine doC_region ?_
  refine doL_v (opV_move rfl) rfl rfl rfl ?_
  refine doL_v (opV_assign rfl) rfl rfl rfl ?_
  refine doL_nil ?_
  refine post_then ?_
  refine doC_keep (ks := [2, 3, 4, 5, 6, 7, 8, 9, 10, 13, 16]) rfl ?_
  refine doC_drawn 13 mo (by kernel_rfl) ?_
  simp only [List.take_succ_cons, List.take_zero, List.drop_succ_cons, List.drop_zero]
  refine doG_v (opV_loadA 8 ty23 rfl rfl rfl) rfl rfl rfl ?_
  refine doG_v (opV_move rfl) rfl rfl rfl ?_
  refine doG_v (opV_move rfl) rfl rfl rfl ?_
  refine doG_v (opV_indexAddr ar28 rfl rfl (by first | decide | omega) (by first | decide | omega)) rfl rfl rfl ?_
  refine doG_v (opV_indexAddr ar26 rfl rfl (by first | decide | omega) (by first | decide | omega)) rfl rfl rfl ?_
  refine doG_v (opV_loadA 2 ty23 rfl rfl rfl) rfl rfl rfl ?_
  refine doG_v (opV_move rfl) rfl rfl rfl ?_
  refine doG_v (opV_move rfl) rfl rfl rfl ?_
  refine doG_v (opV_indexAddr ar28 rfl rfl (by first | decide | omega) (by first | decide | omega)) rfl rfl rfl ?_
  refine doG_v (opV_indexAddr ar26 rfl rfl (by first | decide | omega) (by first | decide | omega)) rfl rfl rfl ?_
  refine doG_v (opV_loadA 3 ty23 rfl rfl rfl) rfl rfl rfl ?_
  refine doG_vg (F := iv) (opV_call en85 rfl (fun w _ => iMul _ _ _ _  w)) rfl rfl rfl ?_; intro r30_16 hr30_16
  refine doG_vg (F := iv) (opV_call en84 rfl (fun w _ => iAdd _ _ _ _  w)) rfl rfl rfl ?_; intro r31_16 hr31_16
  refine doG_nil ?_
  refine tail_nil ?_
  refine doL_store 8 ty23 rfl rfl rfl rfl rfl rfl rfl rfl ?_
  refine doL_nil ?_
  refine post_block_normal ?_
  refine post_then ?_
  refine doC_region ?_
  refine doL_v (opV_add rfl rfl (by first | exact i64_in ⟨by omega, by omega⟩ | rfl)) rfl rfl rfl ?_
  refine doL_v (opV_move rfl) rfl rfl rfl ?_
  refine doL_nil ?_
  refine post_rounds ?_
  refine doR_succ ?_
  refine doC_seq ?_
  refine doC_region ?_
  refine doL_v (opV_lss rfl rfl) rfl rfl rfl ?_
  refine doL_nil ?_
  refine post_then ?_
  refine doC_seq ?_
  refine doC_cond_t rfl (by decide) ?_
  refine doC_skip ?_
  refine post_then ?_
  refine doC_seq ?_
  refine doC_block ?_
  refine doC_seq ?_
  refine doC_region ?_
  refine doL_v (opV_move rfl) rfl rfl rfl ?_
  refine doL_v (opV_assign rfl) rfl rfl rfl ?_
  refine doL_nil ?_
  refine post_then ?_
  refine doC_keep (ks := [2, 3, 4, 5, 6, 7, 8, 9, 10, 13, 16]) rfl ?_
  refine doC_drawn 13 mo (by kernel_rfl) ?_
  simp only [List.take_succ_cons, List.take_zero, List.drop_succ_cons, List.drop_zero]
  refine doG_v (opV_loadA 8 ty23 rfl rfl rfl) rfl rfl rfl ?_
  refine doG_v (opV_move rfl) rfl rfl rfl ?_
  refine doG_v (opV_move rfl) rfl rfl rfl ?_
  refine doG_v (opV_indexAddr ar28 rfl rfl (by first | decide | omega) (by first | decide | omega)) rfl rfl rfl ?_
  refine doG_v (opV_indexAddr ar26 rfl rfl (by first | decide | omega) (by first | decide | omega)) rfl rfl rfl ?_
  refine doG_v (opV_loadA 2 ty23 rfl rfl rfl) rfl rfl rfl ?_
  refine doG_v (opV_move rfl) rfl rfl rfl ?_
  refine doG_v (opV_move rfl) rfl rfl rfl ?_
  refine doG_v (opV_indexAddr ar28 rfl rfl (by first | decide | omega) (by first | decide | omega)) rfl rfl rfl ?_
  refine doG_v (opV_indexAddr ar26 rfl rfl (by first | decide | omega) (by first | decide | omega)) rfl rfl rfl ?_
  refine doG_v (opV_loadA 3 ty23 rfl rfl rfl) rfl rfl rfl ?_
  refine doG_vg (F := iv) (opV_call en85 rfl (fun w _ => iMul _ _ _ _  w)) rfl rfl rfl ?_; intro r30_17 hr30_17
  refine doG_vg (F := iv) (opV_call en84 rfl (fun w _ => iAdd _ _ _ _  w)) rfl rfl rfl ?_; intro r31_17 hr31_17
  refine doG_nil ?_
  refine tail_nil ?_
  refine doL_store 8 ty23 rfl rfl rfl rfl rfl rfl rfl rfl ?_
  refine doL_nil ?_
  refine post_block_normal ?_
  refine post_then ?_
  refine doC_region ?_
  refine doL_v (opV_add rfl rfl (by first | exact i64_in ⟨by omega, by omega⟩ | rfl)) rfl rfl rfl ?_
  refine doL_v (opV_move rfl) rfl rfl rfl ?_
  refine doL_nil ?_
  refine post_rounds ?_
  refine doR_succ ?_
  refine doC_seq ?_
  refine doC_region ?_
  refine doL_v (opV_lss rfl rfl) rfl rfl rfl ?_
  refine doL_nil ?_
  refine post_then ?_
  refine doC_seq ?_
  refine doC_cond_t rfl (by decide) ?_
  refine doC_skip ?_
  refine post_then ?_
  refine doC_seq ?_
  refine doC_block ?_
  refine doC_seq ?_
  refine doC_region ?_
  refine doL_v (opV_move rfl) rfl rfl rfl ?_
  refine doL_v (opV_assign rfl) rfl rfl rfl ?_
  refine doL_nil ?_
  refine post_then ?_
  refine doC_keep (ks := [2, 3, 4, 5, 6, 7, 8, 9, 10, 13, 16]) rfl ?_
  refine doC_drawn 13 mo (by kernel_rfl) ?_
  simp only [List.take_succ_cons, List.take_zero, List.drop_succ_cons, List.drop_zero]
  refine doG_v (opV_loadA 8 ty23 rfl rfl rfl) rfl rfl rfl ?_
  refine doG_v (opV_move rfl) rfl rfl rfl ?_
  refine doG_v (opV_move rfl) rfl rfl rfl ?_
  refine doG_v (opV_indexAddr ar28 rfl rfl (by first | decide | omega) (by first | decide | omega)) rfl rfl rfl ?_
  refine doG_v (opV_indexAddr ar26 rfl rfl (by first | decide | omega) (by first | decide | omega)) rfl rfl rfl ?_
  refine doG_v (opV_loadA 2 ty23 rfl rfl rfl) rfl rfl rfl ?_
  refine doG_v (opV_move rfl) rfl rfl rfl ?_
  refine doG_v (opV_move rfl) rfl rfl rfl ?_
  refine doG_v (opV_indexAddr ar28 rfl rfl (by first | decide | omega) (by first | decide | omega)) rfl rfl rfl ?_
  refine doG_v (opV_indexAddr ar26 rfl rfl (by first | decide | omega) (by first | decide | omega)) rfl rfl rfl ?_
  refine doG_v (opV_loadA 3 ty23 rfl rfl rfl) rfl rfl rfl ?_
  refine doG_vg (F := iv) (opV_call en85 rfl (fun w _ => iMul _ _ _ _  w)) rfl rfl rfl ?_; intro r30_18 hr30_18
  refine doG_vg (F := iv) (opV_call en84 rfl (fun w _ => iAdd _ _ _ _  w)) rfl rfl rfl ?_; intro r31_18 hr31_18
  refine doG_nil ?_
  refine tail_nil ?_
  refine doL_store 8 ty23 rfl rfl rfl rfl rfl rfl rfl rfl ?_
  refine doL_nil ?_
  refine post_block_normal ?_
  refine post_then ?_
  refine doC_region ?_
  refine doL_v (opV_add rfl rfl (by first | exact i64_in ⟨by omega, by omega⟩ | rfl)) rfl rfl rfl ?_
  refine doL_v (opV_move rfl) rfl rfl rfl ?_
  refine doL_nil ?_
  refine post_rounds ?_
  refine doR_succ ?_
  refine doC_seq ?_
  refine doC_region ?_
  refine doL_v (opV_lss rfl rfl) rfl rfl rfl ?_
  refine doL_nil ?_
  refine post_then ?_
  refine doC_seq ?_
  refine doC_cond_f rfl (by decide) ?_
  refine doC_exit ?_
  refine post_then_exit ?_
  refine post_then_exit ?_
  refine post_block_exit ?_
  refine post_then ?_
  refine doC_keep (ks := [2, 3, 4, 5, 6, 7, 8, 9, 10, 13, 16]) rfl ?_
  refine doC_drawn 11 mo (by kernel_rfl) ?_
  simp only [List.take_succ_cons, List.take_zero, List.drop_succ_cons, List.drop_zero]
  refine doG_v (opV_move rfl) rfl rfl rfl ?_
  refine doG_v (opV_move rfl) rfl rfl rfl ?_
  refine doG_v (opV_fieldAddr fa23_0 rfl) rfl rfl rfl ?_
  refine doG_v (opV_load1 8 ty2 rfl rfl rfl) rfl rfl rfl ?_
  refine doG_vg (F := vI) (opV_call en89 rfl (fun w _ => mLimited _  w)) rfl rfl rfl ?_; intro r37_6 hr37_6
  refine doG_v (opV_fieldAddr fa23_1 rfl) rfl rfl rfl ?_
  refine doG_v (opV_load1 8 ty2 rfl rfl rfl) rfl rfl rfl ?_
  refine doG_vg (F := vI) (opV_call en89 rfl (fun w _ => mLimited _  w)) rfl rfl rfl ?_; intro r40_6 hr40_6
  refine doG_v (opV_build la23 rfl rfl) rfl rfl rfl ?_
  refine doG_v (opV_indexAddr ar28 rfl rfl (by first | decide | omega) (by first | decide | omega)) rfl rfl rfl ?_
  refine doG_v (opV_indexAddr ar26 rfl rfl (by first | decide | omega) (by first | decide | omega)) rfl rfl rfl ?_
  refine doG_nil ?_
  refine tail_nil ?_
  refine doL_store 5 ty23 rfl rfl rfl rfl rfl rfl rfl rfl ?_
  refine doL_nil ?_
  refine post_block_normal ?_
  refine post_then ?_
  refine doC_region ?_
  refine doL_v (opV_add rfl rfl (by first | exact i64_in ⟨by omega, by omega⟩ | rfl)) rfl rfl rfl ?_
  refine doL_v (opV_move rfl) rfl rfl rfl ?_
  refine doL_nil ?_
  refine post_rounds ?_
  refine doR_succ ?_
  refine doC_seq ?_
  refine doC_region ?_
  refine doL_v (opV_lss rfl rfl) rfl rfl rfl ?_
  refine doL_nil ?_
  refine post_then ?_
  refine doC_seq ?_
  refine doC_cond_f rfl (by decide) ?_
  refine doC_exit ?_
  refine post_then_exit ?_
  refine post_then_exit ?_
  refine post_block_exit ?_
  refine post_block_normal ?_
  refine post_then ?_
  refine doC_region ?_
  refine doL_v (opV_add rfl rfl (by first | exact i64_in ⟨by omega, by omega⟩ | rfl)) rfl rfl rfl ?_
  refine doL_v (opV_move rfl) rfl rfl rfl ?_
  refine doL_nil ?_
  refine post_rounds ?_
  refine doR_succ ?_
  refine doC_seq ?_
  refine doC_region ?_
  refine doL_v (opV_lss rfl rfl) rfl rfl rfl ?_
  refine doL_nil ?_
  refine post_then ?_
  refine doC_seq ?_
  refine doC_cond_t rfl (by decide) ?_
  refine doC_skip ?_
  refine post_then ?_
  refine doC_seq ?_
  refine doC_block ?_
  refine doC_seq ?_
  refine doC_region ?_
  refine doL_v (opV_move rfl) rfl rfl rfl ?_
  refine doL_v (opV_assign rfl) rfl rfl rfl ?_
  refine doL_nil ?_
  refine post_then ?_
  refine doC_seq ?_
  refine doC_region ?_
  refine doL_v (opV_move rfl) rfl rfl rfl ?_
  refine doL_nil ?_
  refine post_then ?_
  refine doC_block ?_
  refine doC_rounds 4 ?_
  refine doR_succ ?_
  refine doC_seq ?_
  refine doC_region ?_
  refine doL_v (opV_lss rfl rfl) rfl rfl rfl ?_
  refine doL_nil ?_
  refine post_then ?_
  refine doC_seq ?_
  refine doC_cond_t rfl (by decide) ?_
  refine doC_skip ?_
  refine post_then ?_
  refine doC_seq ?_
  refine doC_block ?_
  refine doC_seq ?_
  refine doC_region ?_
  refine doL_v (opV_move rfl) rfl rfl rfl ?_
  refine doL_v (opV_assign rfl) rfl rfl rfl ?_
  refine doL_nil ?_
  refine post_then ?_
  refine doC_seq ?_
  refine doC_keepH (ks := [2, 3, 4, 5]) rfl ?_
  refine doC_region ?_
  refine doL_alloc 8 ze23 rfl rfl rfl ?_; intro b8_7
  refine doL_nil ?_
  refine post_then ?_
  refine doC_seq ?_
  refine doC_seq ?_
  refine doC_region ?_
  refine doL_v (opV_move rfl) rfl rfl rfl ?_
  refine doL_nil ?_
  refine post_then ?_
  refine doC_block ?_
  refine doC_rounds 4 ?_
  refine doR_succ ?_
  refine doC_seq ?_
  refine doC_region ?_
  refine doL_v (opV_lss rfl rfl) rfl rfl rfl ?_
  refine doL_nil ?_
  refine post_then ?_
  refine doC_seq ?_
  refine doC_cond_t rfl (by decide) ?_
  refine doC_skip ?_
  refine post_then ?_
  refine doC_seq ?_
  refine doC_block ?_
  refine doC_seq ?_
  refine doC_region ?_
  refine doL_v (opV_move rfl) rfl rfl rfl ?_
  refine doL_v (opV_assign rfl) rfl rfl rfl ?_
  refine doL_nil ?_
  refine post_then ?_
  refine doC_keep (ks := [2, 3, 4, 5, 6, 7, 8, 9, 10, 13, 16]) rfl ?_
  refine doC_drawn 13 mo (by kernel_rfl) ?_
  simp only [List.take_succ_cons, List.take_zero, List.drop_succ_cons, List.drop_zero]
  refine doG_v (opV_loadA 8 ty23 rfl rfl rfl) rfl rfl rfl ?_
  refine doG_v (opV_move rfl) rfl rfl rfl ?_
  refine doG_v (opV_move rfl) rfl rfl rfl ?_
  refine doG_v (opV_indexAddr ar28 rfl rfl (by first | decide | omega) (by first | decide | omega)) rfl rfl rfl ?_
  refine doG_v (opV_indexAddr ar26 rfl rfl (by first | decide | omega) (by first | decide | omega)) rfl rfl rfl ?_
  refine doG_v (opV_loadA 2 ty23 rfl rfl rfl) rfl rfl rfl ?_
  refine doG_v (opV_move rfl) rfl rfl rfl ?_
  refine doG_v (opV_move rfl) rfl rfl rfl ?_
  refine doG_v (opV_indexAddr ar28 rfl rfl (by first | decide | omega) (by first | decide | omega)) rfl rfl rfl ?_
  refine doG_v (opV_indexAddr ar26 rfl rfl (by first | decide | omega) (by first | decide | omega)) rfl rfl rfl ?_
  refine doG_v (opV_loadA 3 ty23 rfl rfl rfl) rfl rfl rfl ?_
  refine doG_vg (F := iv) (opV_call en85 rfl (fun w _ => iMul _ _ _ _  w)) rfl rfl rfl ?_; intro r30_19 hr30_19
  refine doG_vg (F := iv) (opV_call en84 rfl (fun w _ => iAdd _ _ _ _  w)) rfl rfl rfl ?_; intro r31_19 hr31_19
  refine doG_nil ?_
  refine tail_nil ?_
  refine doL_store 8 ty23 rfl rfl rfl rfl rfl rfl rfl rfl ?_
  refine doL_nil ?_
  refine post_block_normal ?_
  refine post_then ?_
  refine doC_region ?_
  refine doL_v (opV_add rfl rfl (by first | exact i64_in ⟨by omega, by omega⟩ | rfl)) rfl rfl rfl ?_
  refine doL_v (opV_move rfl) rfl rfl rfl ?_
  refine doL_nil ?_
  refine post_rounds ?_
  refine doR_succ ?_
  refine doC_seq ?_
  refine doC_region ?_
  refine doL_v (opV_lss rfl rfl) rfl rfl rfl ?_
  refine doL_nil ?_
  refine post_then ?_
  refine doC_seq ?_
  refine doC_cond_t rfl (by decide) ?_
  refine doC_skip ?_
  refine post_then ?_
  refine doC_seq ?_
  refine doC_block ?_
  refine doC_seq ?_
  refine doC_region ?_
  refine doL_v (opV_move rfl) rfl rfl rfl ?_
  refine doL_v (opV_assign rfl) rfl rfl rfl ?_
  refine doL_nil ?_
  refine post_then ?_
  refine doC_keep (ks := [2, 3, 4, 5, 6, 7, 8, 9, 10, 13, 16]) rfl ?_
  refine doC_drawn 13 mo (by kernel_rfl) ?_
  simp only [List.take_succ_cons, List.take_zero, List.drop_succ_cons, List.drop_zero]
  refine doG_v (opV_loadA 8 ty23 rfl rfl rfl) rfl rfl rfl ?_
  refine doG_v (opV_move rfl) rfl rfl rfl ?_
  refine doG_v (opV_move rfl) rfl rfl rfl ?_
  refine doG_v (opV_indexAddr ar28 rfl rfl (by first | decide | omega) (by first | decide | omega)) rfl rfl rfl ?_
  refine doG_v (opV_indexAddr ar26 rfl rfl (by first | decide | omega) (by first | decide | omega)) rfl rfl rfl ?_
  refine doG_v (opV_loadA 2 ty23 rfl rfl rfl) rfl rfl rfl ?_
  refine doG_v (opV_move rfl) rfl rfl rfl ?_
  refine doG_v (opV_move rfl) rfl rfl rfl ?_
  refine doG_v (opV_indexAddr ar28 rfl rfl (by first | decide | omega) (by first | decide | omega)) rfl rfl rfl ?_
  refine doG_v (opV_indexAddr ar26 rfl rfl (by first | decide | omega) (by first | decide | omega)) rfl rfl rfl ?_
  refine doG_v (opV_loadA 3 ty23 rfl rfl rfl) rfl rfl rfl ?_
  refine doG_vg (F := iv) (opV_call en85 rfl (fun w _ => iMul _ _ _ _  w)) rfl rfl rfl ?_; intro r30_20 hr30_20
  refine doG_vg (F := iv) (opV_call en84 rfl (fun w _ => iAdd _ _ _ _  w)) rfl rfl rfl ?_; intro r31_20 hr31_20
  refine doG_nil ?_
  refine tail_nil ?_
  refine doL_store 8 ty23 rfl rfl rfl rfl rfl rfl rfl rfl ?_
  refine doL_nil ?_
  refine post_block_normal ?_
  refine post_then ?_
  refine doC_region ?_
  refine doL_v (opV_add rfl rfl (by first | exact i64_in ⟨by omega, by omega⟩ | rfl)) rfl rfl rfl ?_
  refine doL_v (opV_move rfl) rfl rfl rfl ?_
  refine doL_nil ?_
  refine post_rounds ?_
  refine doR_succ ?_
  refine doC_seq ?_
  refine doC_region ?_
  refine doL_v (opV_lss rfl rfl) rfl rfl rfl ?_
  refine doL_nil ?_
  refine post_then ?_
  refine doC_seq ?_
  refine doC_cond_t rfl (by decide) ?_
  refine doC_skip ?_
  refine post_then ?_
  refine doC_seq ?_
  refine doC_block ?_
  refine doC_seq ?_
  refine doC_region ?_
  refine doL_v (opV_move rfl) rfl rfl rfl ?_
  refine doL_v (opV_assign rfl) rfl rfl rfl ?_
  refine doL_nil ?_
  refine post_then ?_
  refine doC_keep (ks := [2, 3, 4, 5, 6, 7, 8, 9, 10, 13, 16]) rfl ?_
  refine doC_drawn 13 mo (by kernel_rfl) ?_
  simp only [List.take_succ_cons, List.take_zero, List.drop_succ_cons, List.drop_zero]
  refine doG_v (opV_loadA 8 ty23 rfl rfl rfl) rfl rfl rfl ?_
  refine doG_v (opV_move rfl) rfl rfl rfl ?_
  refine doG_v (opV_move rfl) rfl rfl rfl ?_
  refine doG_v (opV_indexAddr ar28 rfl rfl (by first | decide | omega) (by first | decide | omega)) rfl rfl rfl ?_
  refine doG_v (opV_indexAddr ar26 rfl rfl (by first | decide | omega) (by first | decide | omega)) rfl rfl rfl ?_
  refine doG_v (opV_loadA 2 ty23 rfl rfl rfl) rfl rfl rfl ?_
  refine doG_v (opV_move rfl) rfl rfl rfl ?_
  refine doG_v (opV_move rfl) rfl rfl rfl ?_
  refine doG_v (opV_indexAddr ar28 rfl rfl (by first | decide | omega) (by first | decide | omega)) rfl rfl rfl ?_
  refine doG_v (opV_indexAddr ar26 rfl rfl (by first | decide | omega) (by first | decide | omega)) rfl rfl rfl ?_
  refine doG_v (opV_loadA 3 ty23 rfl rfl rfl) rfl rfl rfl ?_
  refine doG_vg (F := iv) (opV_call en85 rfl (fun w _ => iMul _ _ _ _  w)) rfl rfl rfl ?_; intro r30_21 hr30_21
  refine doG_vg (F := iv) (opV_call en84 rfl (fun w _ => iAdd _ _ _ _  w)) rfl rfl rfl ?_; intro r31_21 hr31_21
  refine doG_nil ?_
  refine tail_nil ?_
  refine doL_store 8 ty23 rfl rfl rfl rfl rfl rfl rfl rfl ?_
  refine doL_nil ?_
  refine post_block_normal ?_
  refine post_then ?_
  refine doC_region ?_
  refine doL_v (opV_add rfl rfl (by first | exact i64_in ⟨by omega, by omega⟩ | rfl)) rfl rfl rfl ?_
  refine doL_v (opV_move rfl) rfl rfl rfl ?_
  refine doL_nil ?_
  refine post_rounds ?_
  refine doR_succ ?_
  refine doC_seq ?_
  refine doC_region ?_
  refine doL_v (opV_lss rfl rfl) rfl rfl rfl ?_
  refine doL_nil ?_
  refine post_then ?_
  refine doC_seq ?_
  refine doC_cond_f rfl (by decide) ?_
  refine doC_exit ?_
  refine post_then_exit ?_
  refine post_then_exit ?_
  refine post_block_exit ?_
  refine post_then ?_
  refine doC_keep (ks := [2, 3, 4, 5, 6, 7, 8, 9, 10, 13, 16]) rfl ?_
  refine doC_drawn 11 mo (by kernel_rfl) ?_
  simp only [List.take_succ_cons, List.take_zero, List.drop_succ_cons, List.drop_zero]
  refine doG_v (opV_move rfl) rfl rfl rfl ?_
  refine doG_v (opV_move rfl) rfl rfl rfl ?_
  refine doG_v (opV_fieldAddr fa23_0 rfl) rfl rfl rfl ?_
  refine doG_v (opV_load1 8 ty2 rfl rfl rfl) rfl rfl rfl ?_
  refine doG_vg (F := vI) (opV_call en89 rfl (fun w _ => mLimited _  w)) rfl rfl rfl ?_; intro r37_7 hr37_7
  refine doG_v (opV_fieldAddr fa23_1 rfl) rfl rfl rfl ?_
  refine doG_v (opV_load1 8 ty2 rfl rfl rfl) rfl rfl rfl ?_
  refine doG_vg (F := vI) (opV_call en89 rfl (fun w _ => mLimited _  w)) rfl rfl rfl ?_; intro r40_7 hr40_7
  refine doG_v (opV_build la23 rfl rfl) rfl rfl rfl ?_
  refine doG_v (opV_indexAddr ar28 rfl rfl (by first | decide | omega) (by first | decide | omega)) rfl rfl rfl ?_
  refine doG_v (opV_indexAddr ar26 rfl rfl (by first | decide | omega) (by first | decide | omega)) rfl rfl rfl ?_
  refine doG_nil ?_
  refine tail_nil ?_
  refine doL_store 5 ty23 rfl rfl rfl rfl rfl rfl rfl rfl ?_
  refine doL_nil ?_
  refine post_block_normal ?_
  refine post_then ?_
  refine doC_region ?_
  refine doL_v (opV_add rfl rfl (by first | exact i64_in ⟨by omega, by omega⟩ | rfl)) rfl rfl rfl ?_
  refine doL_v (opV_move rfl) rfl rfl rfl ?_
  refine doL_nil ?_
  refine post_rounds ?_
  refine doR_succ ?_
  refine doC_seq ?_
  refine doC_region ?_
  refine doL_v (opV_lss rfl rfl) rfl rfl rfl ?_
  refine doL_nil ?_
  refine post_then ?_
  refine doC_seq ?_
  refine doC_cond_t rfl (by decide) ?_
  refine doC_skip ?_
  refine post_then ?_
  refine doC_seq ?_
  refine doC_block ?_
  refine doC_seq ?_
  refine doC_region ?_
  refine doL_v (opV_move rfl) rfl rfl rfl ?_
  refine doL_v (opV_assign rfl) rfl rfl rfl ?_
  refine doL_nil ?_
  refine post_then ?_
  refine doC_seq ?_
  refine doC_keepH (ks := [2, 3, 4, 5]) rfl ?_
  refine doC_region ?_
  refine doL_alloc 8 ze23 rfl rfl rfl ?_; intro b8_8
  refine doL_nil ?_
  refine post_then ?_
  refine doC_seq ?_
  refine doC_seq ?_
  refine doC_region ?_
  refine doL_v (opV_move rfl) rfl rfl rfl ?_
  refine doL_nil ?_
  refine post_then ?_
  refine doC_block ?_
  refine doC_rounds 4 ?_
  refine doR_succ ?_
  refine doC_seq ?_
  refine doC_region ?_
  refine doL_v (opV_lss rfl rfl) rfl rfl rfl ?_
  refine doL_nil ?_
  refine post_then ?_
  refine doC_seq ?_
  refine doC_cond_t rfl (by decide) ?_
  refine doC_skip ?_
  refine post_then ?_
  refine doC_seq ?_
  refine doC_block ?_
  refine doC_seq ?_
  refine doC_region ?_
  refine doL_v (opV_move rfl) rfl rfl rfl ?_
  refine doL_v (opV_assign rfl) rfl rfl rfl ?_
  refine doL_nil ?_
  refine post_then ?_
  refine doC_keep (ks := [2, 3, 4, 5, 6, 7, 8, 9, 10, 13, 16]) rfl ?_
  refine doC_drawn 13 mo (by kernel_rfl) ?_
  simp only [List.take_succ_cons, List.take_zero, List.drop_succ_cons, List.drop_zero]
  refine doG_v (opV_loadA 8 ty23 rfl rfl rfl) rfl rfl rfl ?_
  refine doG_v (opV_move rfl) rfl rfl rfl ?_
  refine doG_v (opV_move rfl) rfl rfl rfl ?_
  refine doG_v (opV_indexAddr ar28 rfl rfl (by first | decide | omega) (by first | decide | omega)) rfl rfl rfl ?_
  refine doG_v (opV_indexAddr ar26 rfl rfl (by first | decide | omega) (by first | decide | omega)) rfl rfl rfl ?_
  refine doG_v (opV_loadA 2 ty23 rfl rfl rfl) rfl rfl rfl ?_
  refine doG_v (opV_move rfl) rfl rfl rfl ?_
  refine doG_v (opV_move rfl) rfl rfl rfl ?_
  refine doG_v (opV_indexAddr ar28 rfl rfl (by first | decide | omega) (by first | decide | omega)) rfl rfl rfl ?_
  refine doG_v (opV_indexAddr ar26 rfl rfl (by first | decide | omega) (by first | decide | omega)) rfl rfl rfl ?_
  refine doG_v (opV_loadA 3 ty23 rfl rfl rfl) rfl rfl rfl ?_
  refine doG_vg (F := iv) (opV_call en85 rfl (fun w _ => iMul _ _ _ _  w)) rfl rfl rfl ?_; intro r30_22 hr30_22
  refine doG_vg (F := iv) (opV_call en84 rfl (fun w _ => iAdd _ _ _ _  w)) rfl rfl rfl ?_; intro r31_22 hr31_22
  refine doG_nil ?_
  refine tail_nil ?_
  refine doL_store 8 ty23 rfl rfl rfl rfl rfl rfl rfl rfl ?_
  refine doL_nil ?_
  refine post_block_normal ?_
  refine post_then ?_
  refine doC_region ?_
  refine doL_v (opV_add rfl rfl (by first | exact i64_in ⟨by omega, by omega⟩ | rfl)) rfl rfl rfl ?_
  refine doL_v (opV_move rfl) rfl rfl rfl ?_
  refine doL_nil ?_
  refine post_rounds ?_
  refine doR_succ ?_
  refine doC_seq ?_
  refine doC_region ?_
  refine doL_v (opV_lss rfl rfl) rfl rfl rfl ?_
  refine doL_nil ?_
  refine post_then ?_
  refine doC_seq ?_
  refine doC_cond_t rfl (by decide) ?_
  refine doC_skip ?_
  refine post_then ?_
  refine doC_seq ?_
  refine doC_block ?_
  refine doC_seq ?_
  refine doC_region ?_
  refine doL_v (opV_move rfl) rfl rfl rfl ?_
  refine doL_v (opV_assign rfl) rfl rfl rfl ?_
  refine doL_nil ?_
  refine post_then ?_
  refine doC_keep (ks := [2, 3, 4, 5, 6, 7, 8, 9, 10, 13, 16]) rfl ?_
  refine doC_drawn 13 mo (by kernel_rfl) ?_
  simp only [List.take_succ_cons, List.take_zero, List.drop_succ_cons, List.drop_zero]
  refine doG_v (opV_loadA 8 ty23 rfl rfl rfl) rfl rfl rfl ?_
  refine doG_v (opV_move rfl) rfl rfl rfl ?_
  refine doG_v (opV_move rfl) rfl rfl rfl ?_
  refine doG_v (opV_indexAddr ar28 rfl rfl (by first | decide | omega) (by first | decide | omega)) rfl rfl rfl ?_
  refine doG_v (opV_indexAddr ar26 rfl rfl (by first | decide | omega) (by first | decide | omega)) rfl rfl rfl ?_
  refine doG_v (opV_loadA 2 ty23 rfl rfl rfl) rfl rfl rfl ?_
  refine doG_v (opV_move rfl) rfl rfl rfl ?_
  refine doG_v (opV_move rfl) rfl rfl rfl ?_
  refine doG_v (opV_indexAddr ar28 rfl rfl (by first | decide | omega) (by first | decide | omega)) rfl rfl rfl ?_
  refine doG_v (opV_indexAddr ar26 rfl rfl (by first | decide | omega) (by first | decide | omega)) rfl rfl rfl ?_
  refine doG_v (opV_loadA 3 ty23 rfl rfl rfl) rfl rfl rfl ?_
  refine doG_vg (F := iv) (opV_call en85 rfl (fun w _ => iMul _ _ _ _  w)) rfl rfl rfl ?_; intro r30_23 hr30_23
  refine doG_vg (F := iv) (opV_call en84 rfl (fun w _ => iAdd _ _ _ _  w)) rfl rfl rfl ?_; intro r31_23 hr31_23
  refine doG_nil ?_
  refine tail_nil ?_
  refine doL_store 8 ty23 rfl rfl rfl rfl rfl rfl rfl rfl ?_
  refine doL_nil ?_
  refine post_block_normal ?_
  refine post_then ?_
  refine doC_region ?_
  refine doL_v (opV_add rfl rfl (by first | exact i64_in ⟨by omega, by omega⟩ | rfl)) rfl rfl rfl ?_
  refine doL_v (opV_move rfl) rfl rfl rfl ?_
  refine doL_nil ?_
  refine post_rounds ?_
  refine doR_succ ?_
  refine doC_seq ?_
  refine doC_region ?_
  refine doL_v (opV_lss rfl rfl) rfl rfl rfl ?_
  refine doL_nil ?_
  refine post_then ?_
  refine doC_seq ?_
  refine doC_cond_t rfl (by decide) ?_
  refine doC_skip ?_
  refine post_then ?_
  refine doC_seq ?_
  refine doC_block ?_
  refine doC_seq ?_
  refine doC_region ?_
  refine doL_v (opV_move rfl) rfl rfl rfl ?_
  refine doL_v (opV_assign rfl) rfl rfl rfl ?_
  refine doL_nil ?_
  refine post_then ?_
  refine doC_keep (ks := [2, 3, 4, 5, 6, 7, 8, 9, 10, 13, 16]) rfl ?_
  refine doC_drawn 13 mo (by kernel_rfl) ?_
  simp only [List.take_succ_cons, List.take_zero, List.drop_succ_cons, List.drop_zero]
  refine doG_v (opV_loadA 8 ty23 rfl rfl rfl) rfl rfl rfl ?_
  refine doG_v (opV_move rfl) rfl rfl rfl ?_
  refine doG_v (opV_move rfl) rfl rfl rfl ?_
  refine doG_v (opV_indexAddr ar28 rfl rfl (by first | decide | omega) (by first | decide | omega)) rfl rfl rfl ?_
  refine doG_v (opV_indexAddr ar26 rfl rfl (by first | decide | omega) (by first | decide | omega)) rfl rfl rfl ?_
  refine doG_v (opV_loadA 2 ty23 rfl rfl rfl) rfl rfl rfl ?_
  refine doG_v (opV_move rfl) rfl rfl rfl ?_
  refine doG_v (opV_move rfl) rfl rfl rfl ?_
  refine doG_v (opV_indexAddr ar28 rfl rfl (by first | decide | omega) (by first | decide | omega)) rfl rfl rfl ?_
  refine doG_v (opV_indexAddr ar26 rfl rfl (by first | decide | omega) (by first | decide | omega)) rfl rfl rfl ?_
  refine doG_v (opV_loadA 3 ty23 rfl rfl rfl) rfl rfl rfl ?_
  refine doG_vg (F := iv) (opV_call en85 rfl (fun w _ => iMul _ _ _ _  w)) rfl rfl rfl ?_; intro r30_24 hr30_24
  refine doG_vg (F := iv) (opV_call en84 rfl (fun w _ => iAdd _ _ _ _  w)) rfl rfl rfl ?_; intro r31_24 hr31_24
  refine doG_nil ?_
  refine tail_nil ?_
  refine doL_store 8 ty23 rfl rfl rfl rfl rfl rfl rfl rfl ?_
  refine doL_nil ?_
  refine post_block_normal ?_
  refine post_then ?_
  refine doC_region ?_
  refine doL_v (opV_add rfl rfl (by first | exact i64_in ⟨by omega, by omega⟩ | rfl)) rfl rfl rfl ?_
  refine doL_v (opV_move rfl) rfl rfl rfl ?_
  refine doL_nil ?_
  refine post_rounds ?_
  refine doR_succ ?_
  refine doC_seq ?_
  refine doC_region ?_
  refine doL_v (opV_lss rfl rfl) rfl rfl rfl ?_
  refine doL_nil ?_
  refine post_then ?_
  refine doC_seq ?_
  refine doC_cond_f rfl (by decide) ?_
  refine doC_exit ?_
  refine post_then_exit ?_
  refine post_then_exit ?_
  refine post_block_exit ?_
  refine post_then ?_
  refine doC_keep (ks := [2, 3, 4, 5, 6, 7, 8, 9, 10, 13, 16]) rfl ?_
  refine doC_drawn 11 mo (by kernel_rfl) ?_
  simp only [List.take_succ_cons, List.take_zero, List.drop_succ_cons, List.drop_zero]
  refine doG_v (opV_move rfl) rfl rfl rfl ?_
  refine doG_v (opV_move rfl) rfl rfl rfl ?_
  refine doG_v (opV_fieldAddr fa23_0 rfl) rfl rfl rfl ?_
  refine doG_v (opV_load1 8 ty2 rfl rfl rfl) rfl rfl rfl ?_
  refine doG_vg (F := vI) (opV_call en89 rfl (fun w _ => mLimited _  w)) rfl rfl rfl ?_; intro r37_8 hr37_8
  refine doG_v (opV_fieldAddr fa23_1 rfl) rfl rfl rfl ?_
  refine doG_v (opV_load1 8 ty2 rfl rfl rfl) rfl rfl rfl ?_
  refine doG_vg (F := vI) (opV_call en89 rfl (fun w _ => mLimited _  w)) rfl rfl rfl ?_; intro r40_8 hr40_8
  refine doG_v (opV_build la23 rfl rfl) rfl rfl rfl ?_
  refine doG_v (opV_indexAddr ar28 rfl rfl (by first | decide | omega) (by first | decide | omega)) rfl rfl rfl ?_
  refine doG_v (opV_indexAddr ar26 rfl rfl (by first | decide | omega) (by first | decide | omega)) rfl rfl rfl ?_
  refine doG_nil ?_
  refine tail_nil ?_
  refine doL_store 5 ty23 rfl rfl rfl rfl rfl rfl rfl rfl ?_
  refine doL_nil ?_
  refine post_block_normal ?_
  refine post_then ?_
  refine doC_region ?_
  refine doL_v (opV_add rfl rfl (by first | exact i64_in ⟨by omega, by omega⟩ | rfl)) rfl rfl rfl ?_
  refine doL_v (opV_move rfl) rfl rfl rfl ?_
  refine doL_nil ?_
  refine post_rounds ?_
  refine doR_succ ?_
  refine doC_seq ?_
  refine doC_region ?_
  refine doL_v (opV_lss rfl rfl) rfl rfl rfl ?_
  refine doL_nil ?_
  refine post_then ?_
  refine doC_seq ?_
  refine doC_cond_t rfl (by decide) ?_
  refine doC_skip ?_
  refine post_then ?_
  refine doC_seq ?_
  refine doC_block ?_
  refine doC_seq ?_
  refine doC_region ?_
  refine doL_v (opV_move rfl) rfl rfl rfl ?_
  refine doL_v (opV_assign rfl) rfl rfl rfl ?_
  refine doL_nil ?_
  refine post_then ?_
  refine doC_seq ?_
  refine doC_keepH (ks := [2, 3, 4, 5]) rfl ?_
  refine doC_region ?_
  refine doL_alloc 8 ze23 rfl rfl rfl ?_; intro b8_9
  refine doL_nil ?_
  refine post_then ?_
  refine doC_seq ?_
  refine doC_seq ?_
  refine doC_region ?_
  refine doL_v (opV_move rfl) rfl rfl rfl ?_
  refine doL_nil ?_
  refine post_then ?_
  refine doC_block ?_
  refine doC_rounds 4 ?_
  refine doR_succ ?_
  refine doC_seq ?_
  refine doC_region ?_
  refine doL_v (opV_lss rfl rfl) rfl rfl rfl ?_
  refine doL_nil ?_
  refine post_then ?_
  refine doC_seq ?_
  refine doC_cond_t rfl (by decide) ?_
  refine doC_skip ?_
  refine post_then ?_
  refine doC_seq ?_
  refine doC_block ?_
  refine doC_seq ?_
  refine doC_region ?_
  refine doL_v (opV_move rfl) rfl rfl rfl ?_
  refine doL_v (opV_assign rfl) rfl rfl rfl ?_
  refine doL_nil ?_
  refine post_then ?_
  refine doC_keep (ks := [2, 3, 4, 5, 6, 7, 8, 9, 10, 13, 16]) rfl ?_
  refine doC_drawn 13 mo (by kernel_rfl) ?_
  simp only [List.take_succ_cons, List.take_zero, List.drop_succ_cons, List.drop_zero]
  refine doG_v (opV_loadA 8 ty23 rfl rfl rfl) rfl rfl rfl ?_
  refine doG_v (opV_move rfl) rfl rfl rfl ?_
  refine doG_v (opV_move rfl) rfl rfl rfl ?_
  refine doG_v (opV_indexAddr ar28 rfl rfl (by first | decide | omega) (by first | decide | omega)) rfl rfl rfl ?_
  refine doG_v (opV_indexAddr ar26 rfl rfl (by first | decide | omega) (by first | decide | omega)) rfl rfl rfl ?_
  refine doG_v (opV_loadA 2 ty23 rfl rfl rfl) rfl rfl rfl ?_
  refine doG_v (opV_move rfl) rfl rfl rfl ?_
  refine doG_v (opV_move rfl) rfl rfl rfl ?_
  refine doG_v (opV_indexAddr ar28 rfl rfl (by first | decide | omega) (by first | decide | omega)) rfl rfl rfl ?_
  refine doG_v (opV_indexAddr ar26 rfl rfl (by first | decide | omega) (by first | decide | omega)) rfl rfl rfl ?_
  refine doG_v (opV_loadA 3 ty23 rfl rfl rfl) rfl rfl rfl ?_
  refine doG_vg (F := iv) (opV_call en85 rfl (fun w _ => iMul _ _ _ _  w)) rfl rfl rfl ?_; intro r30_25 hr30_25
  refine doG_vg (F := iv) (opV_call en84 rfl (fun w _ => iAdd _ _ _ _  w)) rfl rfl rfl ?_; intro r31_25 hr31_25
  refine doG_nil ?_
  refine tail_nil ?_
  refine doL_store 8 ty23 rfl rfl rfl rfl rfl rfl rfl rfl ?_
  refine doL_nil ?_
  refine post_block_normal ?_
  refine post_then ?_
  refine doC_region ?_
  refine doL_v (opV_add rfl rfl (by first | exact i64_in ⟨by omega, by omega⟩ | rfl)) rfl rfl rfl ?_
  refine doL_v (opV_move rfl) rfl rfl rfl ?_
  refine doL_nil ?_
  refine post_rounds ?_
  refine doR_succ ?_
  refine doC_seq ?_
  refine doC_region ?_
  refine doL_v (opV_lss rfl rfl) rfl rfl rfl ?_
  refine doL_nil ?_
  refine post_then ?_
  refine doC_seq ?_
  refine doC_cond_t rfl (by decide) ?_
  refine doC_skip ?_
  refine post_then ?_
  refine doC_seq ?_
  refine doC_block ?_
  refine doC_seq ?_
  refine doC_region ?_
  refine doL_v (opV_move rfl) rfl rfl rfl ?_
  refine doL_v (opV_assign rfl) rfl rfl rfl ?_
  refine doL_nil ?_
  refine post_then ?_
  refine doC_keep (ks := [2, 3, 4, 5, 6, 7, 8, 9, 10, 13, 16]) rfl ?_
  refine doC_drawn 13 mo (by kernel_rfl) ?_
  simp only [List.take_succ_cons, List.take_zero, List.drop_succ_cons, List.drop_zero]
  refine doG_v (opV_loadA 8 ty23 rfl rfl rfl) rfl rfl rfl ?_
  refine doG_v (opV_move rfl) rfl rfl rfl ?_
  refine doG_v (opV_move rfl) rfl rfl rfl ?_
  refine doG_v (opV_indexAddr ar28 rfl rfl (by first | decide | omega) (by first | decide | omega)) rfl rfl rfl ?_
  refine doG_v (opV_indexAddr ar26 rfl rfl (by first | decide | omega) (by first | decide | omega)) rfl rfl rfl ?_
  refine doG_v (opV_loadA 2 ty23 rfl rfl rfl) rfl rfl rfl ?_
  refine doG_v (opV_move rfl) rfl rfl rfl ?_
  refine doG_v (opV_move rfl) rfl rfl rfl ?_
  refine doG_v (opV_indexAddr ar28 rfl rfl (by first | decide | omega) (by first | decide | omega)) rfl rfl rfl ?_
  refine doG_v (opV_indexAddr ar26 rfl rfl (by first | decide | omega) (by first | decide | omega)) rfl rfl rfl ?_
  refine doG_v (opV_loadA 3 ty23 rfl rfl rfl) rfl rfl rfl ?_
  refine doG_vg (F := iv) (opV_call en85 rfl (fun w _ => iMul _ _ _ _  w)) rfl rfl rfl ?_; intro r30_26 hr30_26
  refine doG_vg (F := iv) (opV_call en84 rfl (fun w _ => iAdd _ _ _ _  w)) rfl rfl rfl ?_; intro r31_26 hr31_26
  refine doG_nil ?_
  refine tail_nil ?_
  refine doL_store 8 ty23 rfl rfl rfl rfl rfl rfl rfl rfl ?_
  refine doL_nil ?_
  refine post_block_normal ?_
  refine post_then ?_
  refine doC_region ?_
  refine doL_v (opV_add rfl rfl (by first | exact i64_in ⟨by omega, by omega⟩ | rfl)) rfl rfl rfl ?_
  refine doL_v (opV_move rfl) rfl rfl rfl ?_
  refine doL_nil ?_
  refine post_rounds ?_
  refine doR_succ ?_
  refine doC_seq ?_
  refine doC_region ?_
  refine doL_v (opV_lss rfl rfl) rfl rfl rfl ?_
  refine doL_nil ?_
  refine post_then ?_
  refine doC_seq ?_
  refine doC_cond_t rfl (by decide) ?_
  refine doC_skip ?_
  refine post_then ?_
  refine doC_seq ?_
  refine doC_block ?_
  refine doC_seq ?_
  refine doC_region ?_
  refine doL_v (opV_move rfl) rfl rfl rfl ?_
  refine doL_v (opV_assign rfl) rfl rfl rfl ?_
  refine doL_nil ?_
  refine post_then ?_
  refine doC_keep (ks := [2, 3, 4, 5, 6, 7, 8, 9, 10, 13, 16]) rfl ?_
  refine doC_drawn 13 mo (by kernel_rfl) ?_
  simp only [List.take_succ_cons, List.take_zero, List.drop_succ_cons, List.drop_zero]
  refine doG_v (opV_loadA 8 ty23 rfl rfl rfl) rfl rfl rfl ?_
  refine doG_v (opV_move rfl) rfl rfl rfl ?_
  refine doG_v (opV_move rfl) rfl rfl rfl ?_
  refine doG_v (opV_indexAddr ar28 rfl rfl (by first | decide | omega) (by first | decide | omega)) rfl rfl rfl ?_
  refine doG_v (opV_indexAddr ar26 rfl rfl (by first | decide | omega) (by first | decide | omega)) rfl rfl rfl ?_
  refine doG_v (opV_loadA 2 ty23 rfl rfl rfl) rfl rfl rfl ?_
  refine doG_v (opV_move rfl) rfl rfl rfl ?_
  refine doG_v (opV_move rfl) rfl rfl rfl ?_
  refine doG_v (opV_indexAddr ar28 rfl rfl (by first | decide | omega) (by first | decide | omega)) rfl rfl rfl ?_
  refine doG_v (opV_indexAddr ar26 rfl rfl (by first | decide | omega) (by first | decide | omega)) rfl rfl rfl ?_
  refine doG_v (opV_loadA 3 ty23 rfl rfl rfl) rfl rfl rfl ?_
  refine doG_vg (F := iv) (opV_call en85 rfl (fun w _ => iMul _ _ _ _  w)) rfl rfl rfl ?_; intro r30_27 hr30_27
  refine doG_vg (F := iv) (opV_call en84 rfl (fun w _ => iAdd _ _ _ _  w)) rfl rfl rfl ?_; intro r31_27 hr31_27
  refine doG_nil ?_
  refine tail_nil ?_
  refine doL_store 8 ty23 rfl rfl rfl rfl rfl rfl rfl rfl ?_
  refine doL_nil ?_
  refine post_block_normal ?_
  refine post_then ?_
  refine doC_region ?_
  refine doL_v (opV_add rfl rfl (by first | exact i64_in ⟨by omega, by omega⟩ | rfl)) rfl rfl rfl ?_
  refine doL_v (opV_move rfl) rfl rfl rfl ?_
  refine doL_nil ?_
  refine post_rounds ?_
  refine doR_succ ?_
  refine doC_seq ?_
  refine doC_region ?_
  refine doL_v (opV_lss rfl rfl) rfl rfl rfl ?_
  refine doL_nil ?_
  refine post_then ?_
  refine doC_seq ?_
  refine doC_cond_f rfl (by decide) ?_
  refine doC_exit ?_
  refine post_then_exit ?_
  refine post_then_exit ?_
  refine post_block_exit ?_
  refine post_then ?_
  refine doC_keep (ks := [2, 3, 4, 5, 6, 7, 8, 9, 10, 13, 16]) rfl ?_
  refine doC_drawn 11 mo (by kernel_rfl) ?_
  simp only [List.take_succ_cons, List.take_zero, List.drop_succ_cons, List.drop_zero]
  refine doG_v (opV_move rfl) rfl rfl rfl ?_
  refine doG_v (opV_move rfl) rfl rfl rfl ?_
  refine doG_v (opV_fieldAddr fa23_0 rfl) rfl rfl rfl ?_
  refine doG_v (opV_load1 8 ty2 rfl rfl rfl) rfl rfl rfl ?_
  refine doG_vg (F := vI) (opV_call en89 rfl (fun w _ => mLimited _  w)) rfl rfl rfl ?_; intro r37_9 hr37_9
  refine doG_v (opV_fieldAddr fa23_1 rfl) rfl rfl rfl ?_
  refine doG_v (opV_load1 8 ty2 rfl rfl rfl) rfl rfl rfl ?_
  refine doG_vg (F := vI) (opV_call en89 rfl (fun w _ => mLimited _  w)) rfl rfl rfl ?_; intro r40_9 hr40_9
  refine doG_v (opV_build la23 rfl rfl) rfl rfl rfl ?_
  refine doG_v (opV_indexAddr ar28 rfl rfl (by first | decide | omega) (by first | decide | omega)) rfl rfl rfl ?_
  refine doG_v (opV_indexAddr ar26 rfl rfl (by first | decide | omega) (by first | decide | omega)) rfl rfl rfl ?_
  refine doG_nil ?_
  refine tail_nil ?_
  refine doL_store 5 ty23 rfl rfl rfl rfl rfl rfl rfl rfl ?_
  refine doL_nil ?_
  refine post_block_normal ?_
  refine post_then ?_
  refine doC_region ?_
  refine doL_v (opV_add rfl rfl (by first | exact i64_in ⟨by omega, by omega⟩ | rfl)) rfl rfl rfl ?_
  refine doL_v (opV_move rfl) rfl rfl rfl ?_
  refine doL_nil ?_
  refine post_rounds ?_
  refine doR_succ ?_
  refine doC_seq ?_
  refine doC_region ?_
  refine doL_v (opV_lss rfl rfl) rfl rfl rfl ?_
  refine doL_nil ?_
  refine post_then ?_
  refine doC_seq ?_
  refine doC_cond_f rfl (by decide) ?_
  refine doC_exit ?_
  refine post_then_exit ?_
  refine post_then_exit ?_
  refine post_block_exit ?_
  refine post_block_normal ?_
  refine post_then ?_
  refine doC_region ?_
  refine doL_v (opV_add rfl rfl (by first | exact i64_in ⟨by omega, by omega⟩ | rfl)) rfl rfl rfl ?_
  refine doL_v (opV_move rfl) rfl rfl rfl ?_
  refine doL_nil ?_
  refine post_rounds ?_
  refine doR_succ ?_
  refine doC_seq ?_
  refine doC_region ?_
  refine doL_v (opV_lss rfl rfl) rfl rfl rfl ?_
  refine doL_nil ?_
  refine post_then ?_
  refine doC_seq ?_
  refine doC_cond_f rfl (by decide) ?_
  refine doC_exit ?_
  refine post_then_exit ?_
  refine post_then_exit ?_
  refine post_block_exit ?_
  refine post_then ?_
  refine doC_seq ?_
  refine doC_region ?_
  refine doL_v (opV_loadA 5 ty28 rfl rfl rfl) rfl rfl rfl ?_
  refine doL_store 4 ty28 rfl rfl rfl rfl rfl rfl rfl rfl ?_
  refine doL_nil ?_
  refine post_then ?_
  refine doC_ret ?_
  refine post_rets (rs := [.cell 4 28]) rfl (resC (resIs_cell 4 rfl rfl ty28 rfl) (resN)) (congrArg (m3) (?_ : ⟨⟨⟨_, _⟩, ⟨_, _⟩, ⟨_, _⟩⟩, ⟨⟨_, _⟩, ⟨_, _⟩, ⟨_, _⟩⟩, ⟨⟨_, _⟩, ⟨_, _⟩, ⟨_, _⟩⟩⟩ = M3.mul (⟨⟨⟨p0, p1⟩, ⟨p2, p3⟩, ⟨p4, p5⟩⟩, ⟨⟨p6, p7⟩, ⟨p8, p9⟩, ⟨p10, p11⟩⟩, ⟨⟨p12, p13⟩, ⟨p14, p15⟩, ⟨p16, p17⟩⟩⟩ : M3) (⟨⟨⟨q0, q1⟩, ⟨q2, q3⟩, ⟨q4, q5⟩⟩, ⟨⟨q6, q7⟩, ⟨q8, q9⟩, ⟨q10, q11⟩⟩, ⟨⟨q12, q13⟩, ⟨q14, q15⟩, ⟨q16, q17⟩⟩⟩ : M3)))
  subst_vars; simp only [add_zero_mul']; rfl
end Go.Proofs.Ytonampcmhhhffaa
namespace Go.Proofs.Ytonampcmhhhffaa
open Go.Sx
theorem en35 : Enters Try.prog 35 := enters_of Try.func35 (by kernel_rfl) (by kernel_rfl)
theorem ze63 : zeroIs Try.prog 63 (.agg #[.int .i64 0, .int .i64 0, .int .i64 0, .int .i64 0, .int .i64 0, .int .i64 0, .int .i64 0, .int .i64 0, .int .i64 0, .int .i64 0, .int .i64 0, .int .i64 0, .int .i64 0, .int .i64 0, .int .i64 0, .int .i64 0, .int .i64 0, .int .i64 0, .int .i64 0, .int .i64 0, .int .i64 0, .int .i64 0, .int .i64 0, .int .i64 0]) := by unfold zeroIs; kernel_rfl
theorem en42 : Enters Try.prog 42 := enters_of Try.func42 (by kernel_rfl) (by kernel_rfl)
theorem la63 : layoutOf Try.prog 63 = some ([.int .i64 0, .int .i64 0, .int .i64 0, .int .i64 0, .int .i64 0, .int .i64 0, .int .i64 0, .int .i64 0, .int .i64 0, .int .i64 0, .int .i64 0, .int .i64 0, .int .i64 0, .int .i64 0, .int .i64 0, .int .i64 0, .int .i64 0, .int .i64 0, .int .i64 0, .int .i64 0, .int .i64 0, .int .i64 0, .int .i64 0, .int .i64 0], [(0, 18), (18, 6)]) := by kernel_rfl
theorem ty63 : tyB Try.prog 63 true 24 = true := by kernel_rfl
theorem en102 : Enters Try.prog 102 := enters_of Try.func102 (by kernel_rfl) (by kernel_rfl)
theorem en53 : Enters Try.prog 53 := enters_of Try.func53 (by kernel_rfl) (by kernel_rfl)
theorem en24 : Enters Try.prog 24 := enters_of Try.func24 (by kernel_rfl) (by kernel_rfl)
theorem fa63_1 : fieldB Try.prog 63 1 18 = true := by kernel_rfl
theorem fa63_0 : fieldB Try.prog 63 0 0 = true := by kernel_rfl
theorem en29 : Enters Try.prog 29 := enters_of Try.func29 (by kernel_rfl) (by kernel_rfl)
theorem en47 : Enters Try.prog 47 := enters_of Try.func47 (by kernel_rfl) (by kernel_rfl)
theorem en97 : Enters Try.prog 97 := enters_of Try.func97 (by kernel_rfl) (by kernel_rfl)
theorem en34 : Enters Try.prog 34 := enters_of Try.func34 (by kernel_rfl) (by kernel_rfl)
theorem en127 : Enters Try.prog 127 := enters_of Try.func127 (by kernel_rfl) (by kernel_rfl)
theorem en90 : Enters Try.prog 90 := enters_of Try.func90 (by kernel_rfl) (by kernel_rfl)
theorem en55 : Enters Try.prog 55 := enters_of Try.func55 (by kernel_rfl) (by kernel_rfl)
theorem pStill  (w : World) : Calls Try.prog 102 [].toArray w (Rets (v3 (V3.zero)) (w)) := by
  refine calls_of_doC (n := 3) Try.func102 rfl rfl rfl ?_
  refine doC_seq ?_
  refine doC_region ?_
  refine doL_alloc 0 ze34 rfl rfl rfl ?_; intro b0
  refine doL_nil ?_
  refine post_then ?_
  refine doC_seq ?_
  refine doC_region ?_
  refine doL_v (opV_build la38 rfl rfl) rfl rfl rfl ?_
  refine doL_vg (F := v3) (opV_call en35 rfl (fun w _ => mPoint _ _ _  w)) rfl rfl rfl ?_; intro r2 hr2
  refine doL_store 0 ty34 rfl rfl rfl rfl rfl rfl rfl rfl ?_
  refine doL_nil ?_
  refine post_then ?_
  refine doC_ret ?_
  refine post_rets (rs := [.cell 0 34]) rfl (resC (resIs_cell 0 rfl rfl ty34 rfl) (resN)) (congrArg (v3) (?_ : ⟨⟨_, _⟩, ⟨_, _⟩, ⟨_, _⟩⟩ = V3.zero))
  subst_vars; rfl
theorem pShift (va0 va1 va2 va3 va4 va5 : Int) (w : World) : Calls Try.prog 53 [.agg #[.int .i64 va0, .int .i64 va1, .int .i64 va2, .int .i64 va3, .int .i64 va4, .int .i64 va5]].toArray w (Rets (po (Po.shift (⟨⟨va0, va1⟩, ⟨va2, va3⟩, ⟨va4, va5⟩⟩ : V3))) (w)) := by
  refine calls_of_doC (n := 6) Try.func53 rfl rfl rfl ?_
  refine doC_seq ?_
  refine doC_region ?_
  refine doL_box 1 rfl rfl rfl rfl ?_; intro b1
  refine doL_alloc 2 ze63 rfl rfl rfl ?_; intro b2
  refine doL_nil ?_
  refine post_then ?_
  refine doC_seq ?_
  refine doC_drawn 3 mo (by kernel_rfl) ?_
  simp only [List.take_succ_cons, List.take_zero, List.drop_succ_cons, List.drop_zero]
  refine doG_vg (F := m3) (opV_call en42 rfl (fun w _ => mIdentity   w)) rfl rfl rfl ?_; intro r3 hr3
  refine doG_v (opV_loadA 1 ty34 rfl rfl rfl) rfl rfl rfl ?_
  refine doG_v (opV_build la63 rfl rfl) rfl rfl rfl ?_
  refine doG_nil ?_
  refine tail_nil ?_
  refine doL_store 2 ty63 rfl rfl rfl rfl rfl rfl rfl rfl ?_
  refine doL_nil ?_
  refine post_then ?_
  refine doC_ret ?_
  refine post_rets (rs := [.cell 2 63]) rfl (resC (resIs_cell 2 rfl rfl ty63 rfl) (resN)) (congrArg (po) (?_ : ⟨⟨⟨⟨_, _⟩, ⟨_, _⟩, ⟨_, _⟩⟩, ⟨⟨_, _⟩, ⟨_, _⟩, ⟨_, _⟩⟩, ⟨⟨_, _⟩, ⟨_, _⟩, ⟨_, _⟩⟩⟩, ⟨⟨_, _⟩, ⟨_, _⟩, ⟨_, _⟩⟩⟩ = Po.shift (⟨⟨va0, va1⟩, ⟨va2, va3⟩, ⟨va4, va5⟩⟩ : V3)))
  subst_vars; rfl
theorem pIdentity  (w : World) : Calls Try.prog 61 [].toArray w (Rets (po (Po.rest)) (w)) := by
  refine calls_of_doC (n := 3) Try.func61 rfl rfl rfl ?_
  refine doC_seq ?_
  refine doC_region ?_
  refine doL_alloc 0 ze63 rfl rfl rfl ?_; intro b0
  refine doL_nil ?_
  refine post_then ?_
  refine doC_seq ?_
  refine doC_region ?_
  refine doL_vg (F := v3) (opV_call en102 rfl (fun w _ => pStill   w)) rfl rfl rfl ?_; intro r1 hr1
  refine doL_vg (F := po) (opV_call en53 rfl (fun w _ => pShift _ _ _ _ _ _  w)) rfl rfl rfl ?_; intro r2 hr2
  refine doL_store 0 ty63 rfl rfl rfl rfl rfl rfl rfl rfl ?_
  refine doL_nil ?_
  refine post_then ?_
  refine doC_ret ?_
  refine post_rets (rs := [.cell 0 63]) rfl (resC (resIs_cell 0 rfl rfl ty63 rfl) (resN)) (congrArg (po) (?_ : ⟨⟨⟨⟨_, _⟩, ⟨_, _⟩, ⟨_, _⟩⟩, ⟨⟨_, _⟩, ⟨_, _⟩, ⟨_, _⟩⟩, ⟨⟨_, _⟩, ⟨_, _⟩, ⟨_, _⟩⟩⟩, ⟨⟨_, _⟩, ⟨_, _⟩, ⟨_, _⟩⟩⟩ = Po.rest))
  subst_vars; rfl
theorem pTurn (axis : Int) (a0 a1 : Int) (w : World) : Calls Try.prog 63 [.int .i64 axis, .agg #[.int .i64 a0, .int .i64 a1]].toArray w (Rets (po (Po.turn axis (⟨a0, a1⟩ : Iv))) (w)) := by
  refine calls_of_doC (n := 10) Try.func63 rfl rfl rfl ?_
  refine doC_seq ?_
  refine doC_region ?_
  refine doL_box 3 rfl rfl rfl rfl ?_; intro b3
  refine doL_alloc 4 ze63 rfl rfl rfl ?_; intro b4
  refine doL_nil ?_
  refine post_then ?_
  refine doC_seq ?_
  refine doC_region ?_
  refine doL_v (opV_move rfl) rfl rfl rfl ?_
  refine doL_v (opV_loadA 3 ty23 rfl rfl rfl) rfl rfl rfl ?_
  refine doL_vg (F := m3) (opV_call en24 rfl (fun w _ => mTurn _ _ _  w)) rfl rfl rfl ?_; intro r7 hr7
  refine doL_vg (F := v3) (opV_call en102 rfl (fun w _ => pStill   w)) rfl rfl rfl ?_; intro r8 hr8
  refine doL_v (opV_build la63 rfl rfl) rfl rfl rfl ?_
  refine doL_store 4 ty63 rfl rfl rfl rfl rfl rfl rfl rfl ?_
  refine doL_nil ?_
  refine post_then ?_
  refine doC_ret ?_
  refine post_rets (rs := [.cell 4 63]) rfl (resC (resIs_cell 4 rfl rfl ty63 rfl) (resN)) (congrArg (po) (?_ : ⟨⟨⟨⟨_, _⟩, ⟨_, _⟩, ⟨_, _⟩⟩, ⟨⟨_, _⟩, ⟨_, _⟩, ⟨_, _⟩⟩, ⟨⟨_, _⟩, ⟨_, _⟩, ⟨_, _⟩⟩⟩, ⟨⟨_, _⟩, ⟨_, _⟩, ⟨_, _⟩⟩⟩ = Po.turn axis (⟨a0, a1⟩ : Iv)))
  subst_vars; rfl
theorem pMover (pa0 pa1 pa2 pa3 pa4 pa5 pa6 pa7 pa8 pa9 pa10 pa11 pa12 pa13 pa14 pa15 pa16 pa17 pa18 pa19 pa20 pa21 pa22 pa23 : Int) (w : World) : Calls Try.prog 97 [.agg #[.int .i64 pa0, .int .i64 pa1, .int .i64 pa2, .int .i64 pa3, .int .i64 pa4, .int .i64 pa5, .int .i64 pa6, .int .i64 pa7, .int .i64 pa8, .int .i64 pa9, .int .i64 pa10, .int .i64 pa11, .int .i64 pa12, .int .i64 pa13, .int .i64 pa14, .int .i64 pa15, .int .i64 pa16, .int .i64 pa17, .int .i64 pa18, .int .i64 pa19, .int .i64 pa20, .int .i64 pa21, .int .i64 pa22, .int .i64 pa23]].toArray w (RetsT (NewF w (fun b => .func (.func 127) #[] #[.pointer (some ⟨b, 0, none⟩)]) [.int .i64 pa0, .int .i64 pa1, .int .i64 pa2, .int .i64 pa3, .int .i64 pa4, .int .i64 pa5, .int .i64 pa6, .int .i64 pa7, .int .i64 pa8, .int .i64 pa9, .int .i64 pa10, .int .i64 pa11, .int .i64 pa12, .int .i64 pa13, .int .i64 pa14, .int .i64 pa15, .int .i64 pa16, .int .i64 pa17, .int .i64 pa18, .int .i64 pa19, .int .i64 pa20, .int .i64 pa21, .int .i64 pa22, .int .i64 pa23] 63) w) := by
  refine calls_of_doC (n := 4) Try.func97 rfl rfl rfl ?_
  refine doC_seq ?_
  refine doC_region ?_
  refine doL_box 1 rfl rfl rfl rfl ?_; intro b1
  refine doL_v (opV_assign rfl) rfl rfl rfl ?_
  refine doL_nil ?_
  refine post_then ?_
  refine doC_seq ?_
  refine doC_region ?_
  refine doL_v (opV_makeFunc rfl rfl) rfl rfl rfl ?_
  refine doL_v (opV_assign rfl) rfl rfl rfl ?_
  refine doL_nil ?_
  refine post_then ?_
  refine doC_ret ?_
  refine post_ret (rs := [.tmp 2]) rfl (resC (resIs_tmp rfl) (resN)) rfl ?_
  intro w2 k
  exact ⟨_, rfl, k.grow, _, rfl, (k.at (i := 1) rfl).1, (k.at (i := 1) rfl).2⟩
theorem pMove (va0 va1 va2 va3 va4 va5 : Int) (b : Nat) (pa0 pa1 pa2 pa3 pa4 pa5 pa6 pa7 pa8 pa9 pa10 pa11 pa12 pa13 pa14 pa15 pa16 pa17 pa18 pa19 pa20 pa21 pa22 pa23 : Int) (w : World) (hb : w.heap[b]? = some (.cells [.int .i64 pa0, .int .i64 pa1, .int .i64 pa2, .int .i64 pa3, .int .i64 pa4, .int .i64 pa5, .int .i64 pa6, .int .i64 pa7, .int .i64 pa8, .int .i64 pa9, .int .i64 pa10, .int .i64 pa11, .int .i64 pa12, .int .i64 pa13, .int .i64 pa14, .int .i64 pa15, .int .i64 pa16, .int .i64 pa17, .int .i64 pa18, .int .i64 pa19, .int .i64 pa20, .int .i64 pa21, .int .i64 pa22, .int .i64 pa23].toArray 63)) : Calls Try.prog 127 [.agg #[.int .i64 va0, .int .i64 va1, .int .i64 va2, .int .i64 va3, .int .i64 va4, .int .i64 va5], .pointer (some ⟨b, 0, none⟩)].toArray w (Rets (v3 (V3.add (Po.t ⟨⟨⟨⟨pa0, pa1⟩, ⟨pa2, pa3⟩, ⟨pa4, pa5⟩⟩, ⟨⟨pa6, pa7⟩, ⟨pa8, pa9⟩, ⟨pa10, pa11⟩⟩, ⟨⟨pa12, pa13⟩, ⟨pa14, pa15⟩, ⟨pa16, pa17⟩⟩⟩, ⟨⟨pa18, pa19⟩, ⟨pa20, pa21⟩, ⟨pa22, pa23⟩⟩⟩) (M3.apply (Po.r ⟨⟨⟨⟨pa0, pa1⟩, ⟨pa2, pa3⟩, ⟨pa4, pa5⟩⟩, ⟨⟨pa6, pa7⟩, ⟨pa8, pa9⟩, ⟨pa10, pa11⟩⟩, ⟨⟨pa12, pa13⟩, ⟨pa14, pa15⟩, ⟨pa16, pa17⟩⟩⟩, ⟨⟨pa18, pa19⟩, ⟨pa20, pa21⟩, ⟨pa22, pa23⟩⟩⟩) (⟨⟨va0, va1⟩, ⟨va2, va3⟩, ⟨va4, va5⟩⟩ : V3)))) (w)) := by
  refine calls_of_doC (n := 11) Try.func127 rfl rfl rfl ?_
  refine doC_seq ?_
  refine doC_region ?_
  refine doL_box 2 rfl rfl rfl rfl ?_; intro b2
  refine doL_alloc 3 ze34 rfl rfl rfl ?_; intro b3
  refine doL_nil ?_
  refine post_then ?_
  refine doC_seq ?_
  refine doC_drawn 7 mo (by kernel_rfl) ?_
  simp only [List.take_succ_cons, List.take_zero, List.drop_succ_cons, List.drop_zero]
  refine doG_v (opV_fieldAddr fa63_1 rfl) rfl rfl rfl ?_
  refine doG_v (opV_loadA_blk hb ty34 rfl rfl) rfl rfl rfl ?_
  refine doG_v (opV_fieldAddr fa63_0 rfl) rfl rfl rfl ?_
  refine doG_v (opV_loadA_blk hb ty28 rfl rfl) rfl rfl rfl ?_
  refine doG_v (opV_loadA 2 ty34 rfl rfl rfl) rfl rfl rfl ?_
  refine doG_vg (F := v3) (opV_call en29 rfl (fun w _ => mApply _ _ _ _ _ _ _ _ _ _ _ _ _ _ _ _ _ _ _ _ _ _ _ _  w)) rfl rfl rfl ?_; intro r9 hr9
  refine doG_vg (F := v3) (opV_call en47 rfl (fun w _ => mAdd _ _ _ _ _ _ _ _ _ _ _ _  w)) rfl rfl rfl ?_; intro r10 hr10
  refine doG_nil ?_
  refine tail_nil ?_
  refine doL_store 3 ty34 rfl rfl rfl rfl rfl rfl rfl rfl ?_
  refine doL_nil ?_
  refine post_then ?_
  refine doC_ret ?_
  refine post_rets (rs := [.cell 3 34]) rfl (resC (resIs_cell 3 rfl rfl ty34 rfl) (resN)) (congrArg (v3) (?_ : ⟨⟨_, _⟩, ⟨_, _⟩, ⟨_, _⟩⟩ = V3.add (Po.t ⟨⟨⟨⟨pa0, pa1⟩, ⟨pa2, pa3⟩, ⟨pa4, pa5⟩⟩, ⟨⟨pa6, pa7⟩, ⟨pa8, pa9⟩, ⟨pa10, pa11⟩⟩, ⟨⟨pa12, pa13⟩, ⟨pa14, pa15⟩, ⟨pa16, pa17⟩⟩⟩, ⟨⟨pa18, pa19⟩, ⟨pa20, pa21⟩, ⟨pa22, pa23⟩⟩⟩) (M3.apply (Po.r ⟨⟨⟨⟨pa0, pa1⟩, ⟨pa2, pa3⟩, ⟨pa4, pa5⟩⟩, ⟨⟨pa6, pa7⟩, ⟨pa8, pa9⟩, ⟨pa10, pa11⟩⟩, ⟨⟨pa12, pa13⟩, ⟨pa14, pa15⟩, ⟨pa16, pa17⟩⟩⟩, ⟨⟨pa18, pa19⟩, ⟨pa20, pa21⟩, ⟨pa22, pa23⟩⟩⟩) (⟨⟨va0, va1⟩, ⟨va2, va3⟩, ⟨va4, va5⟩⟩ : V3))))
  subst_vars; rfl
theorem pCompose (pa0 pa1 pa2 pa3 pa4 pa5 pa6 pa7 pa8 pa9 pa10 pa11 pa12 pa13 pa14 pa15 pa16 pa17 pa18 pa19 pa20 pa21 pa22 pa23 : Int) (qa0 qa1 qa2 qa3 qa4 qa5 qa6 qa7 qa8 qa9 qa10 qa11 qa12 qa13 qa14 qa15 qa16 qa17 qa18 qa19 qa20 qa21 qa22 qa23 : Int) (w : World) : Calls Try.prog 51 [.agg #[.int .i64 pa0, .int .i64 pa1, .int .i64 pa2, .int .i64 pa3, .int .i64 pa4, .int .i64 pa5, .int .i64 pa6, .int .i64 pa7, .int .i64 pa8, .int .i64 pa9, .int .i64 pa10, .int .i64 pa11, .int .i64 pa12, .int .i64 pa13, .int .i64 pa14, .int .i64 pa15, .int .i64 pa16, .int .i64 pa17, .int .i64 pa18, .int .i64 pa19, .int .i64 pa20, .int .i64 pa21, .int .i64 pa22, .int .i64 pa23], .agg #[.int .i64 qa0, .int .i64 qa1, .int .i64 qa2, .int .i64 qa3, .int .i64 qa4, .int .i64 qa5, .int .i64 qa6, .int .i64 qa7, .int .i64 qa8, .int .i64 qa9, .int .i64 qa10, .int .i64 qa11, .int .i64 qa12, .int .i64 qa13, .int .i64 qa14, .int .i64 qa15, .int .i64 qa16, .int .i64 qa17, .int .i64 qa18, .int .i64 qa19, .int .i64 qa20, .int .i64 qa21, .int .i64 qa22, .int .i64 qa23]].toArray w (Rets (po (Po.mul (⟨⟨⟨⟨pa0, pa1⟩, ⟨pa2, pa3⟩, ⟨pa4, pa5⟩⟩, ⟨⟨pa6, pa7⟩, ⟨pa8, pa9⟩, ⟨pa10, pa11⟩⟩, ⟨⟨pa12, pa13⟩, ⟨pa14, pa15⟩, ⟨pa16, pa17⟩⟩⟩, ⟨⟨pa18, pa19⟩, ⟨pa20, pa21⟩, ⟨pa22, pa23⟩⟩⟩ : Po) (⟨⟨⟨⟨qa0, qa1⟩, ⟨qa2, qa3⟩, ⟨qa4, qa5⟩⟩, ⟨⟨qa6, qa7⟩, ⟨qa8, qa9⟩, ⟨qa10, qa11⟩⟩, ⟨⟨qa12, qa13⟩, ⟨qa14, qa15⟩, ⟨qa16, qa17⟩⟩⟩, ⟨⟨qa18, qa19⟩, ⟨qa20, qa21⟩, ⟨qa22, qa23⟩⟩⟩ : Po))) (w)) := by
  refine calls_of_doC (n := 18) Try.func51 rfl rfl rfl ?_
  refine doC_seq ?_
  refine doC_region ?_
  refine doL_box 2 rfl rfl rfl rfl ?_; intro b2
  refine doL_box 3 rfl rfl rfl rfl ?_; intro b3
  refine doL_alloc 4 ze63 rfl rfl rfl ?_; intro b4
  refine doL_nil ?_
  refine post_then ?_
  refine doC_seq ?_
  refine doC_region ?_
  refine doL_v (opV_loadA 2 ty63 rfl rfl rfl) rfl rfl rfl ?_
  refine doL_callNewF 7 en97 rfl (fun w' _ => pMover _ _ _ _ _ _ _ _ _ _ _ _ _ _ _ _ _ _ _ _ _ _ _ _ w') rfl rfl ?_; intro b7
  refine doL_v (opV_assign rfl) rfl rfl rfl ?_
  refine doL_nil ?_
  refine post_then ?_
  refine doC_seq ?_
  refine doC_drawn 10 mo (by kernel_rfl) ?_
  simp only [List.take_succ_cons, List.take_zero, List.drop_succ_cons, List.drop_zero]
  refine doG_v (opV_fieldAddr fa63_0 rfl) rfl rfl rfl ?_
  refine doG_v (opV_loadA 2 ty28 rfl rfl rfl) rfl rfl rfl ?_
  refine doG_v (opV_fieldAddr fa63_0 rfl) rfl rfl rfl ?_
  refine doG_v (opV_loadA 3 ty28 rfl rfl rfl) rfl rfl rfl ?_
  refine doG_vg (F := m3) (opV_call en34 rfl (fun w _ => mCompose _ _ _ _ _ _ _ _ _ _ _ _ _ _ _ _ _ _ _ _ _ _ _ _ _ _ _ _ _ _ _ _ _ _ _ _  w)) rfl rfl rfl ?_; intro r12 hr12
  refine doG_v (opV_move rfl) rfl rfl rfl ?_
  refine doG_v (opV_fieldAddr fa63_1 rfl) rfl rfl rfl ?_
  refine doG_v (opV_loadA 3 ty34 rfl rfl rfl) rfl rfl rfl ?_
  refine doG_vg (F := v3) (opV_callV en127 rfl rfl rfl (fun w k => pMove _ _ _ _ _ _ _ _ _ _ _ _ _ _ _ _ _ _ _ _ _ _ _ _ _ _ _ _ _ _ _ w (k.at (i := 7) rfl).2)) rfl rfl rfl ?_; intro r16 hr16
  refine doG_v (opV_build la63 rfl rfl) rfl rfl rfl ?_
  refine doG_nil ?_
  refine tail_nil ?_
  refine doL_store 4 ty63 rfl rfl rfl rfl rfl rfl rfl rfl ?_
  refine doL_nil ?_
  refine post_then ?_
  refine doC_ret ?_
  refine post_rets (rs := [.cell 4 63]) rfl (resC (resIs_cell 4 rfl rfl ty63 rfl) (resN)) (congrArg (po) (?_ : ⟨⟨⟨⟨_, _⟩, ⟨_, _⟩, ⟨_, _⟩⟩, ⟨⟨_, _⟩, ⟨_, _⟩, ⟨_, _⟩⟩, ⟨⟨_, _⟩, ⟨_, _⟩, ⟨_, _⟩⟩⟩, ⟨⟨_, _⟩, ⟨_, _⟩, ⟨_, _⟩⟩⟩ = Po.mul (⟨⟨⟨⟨pa0, pa1⟩, ⟨pa2, pa3⟩, ⟨pa4, pa5⟩⟩, ⟨⟨pa6, pa7⟩, ⟨pa8, pa9⟩, ⟨pa10, pa11⟩⟩, ⟨⟨pa12, pa13⟩, ⟨pa14, pa15⟩, ⟨pa16, pa17⟩⟩⟩, ⟨⟨pa18, pa19⟩, ⟨pa20, pa21⟩, ⟨pa22, pa23⟩⟩⟩ : Po) (⟨⟨⟨⟨qa0, qa1⟩, ⟨qa2, qa3⟩, ⟨qa4, qa5⟩⟩, ⟨⟨qa6, qa7⟩, ⟨qa8, qa9⟩, ⟨qa10, qa11⟩⟩, ⟨⟨qa12, qa13⟩, ⟨qa14, qa15⟩, ⟨qa16, qa17⟩⟩⟩, ⟨⟨qa18, qa19⟩, ⟨qa20, qa21⟩, ⟨qa22, qa23⟩⟩⟩ : Po)))
  subst_vars; rfl
theorem pApply (pa0 pa1 pa2 pa3 pa4 pa5 pa6 pa7 pa8 pa9 pa10 pa11 pa12 pa13 pa14 pa15 pa16 pa17 pa18 pa19 pa20 pa21 pa22 pa23 : Int) (va0 va1 va2 va3 va4 va5 : Int) (w : World) : Calls Try.prog 50 [.agg #[.int .i64 pa0, .int .i64 pa1, .int .i64 pa2, .int .i64 pa3, .int .i64 pa4, .int .i64 pa5, .int .i64 pa6, .int .i64 pa7, .int .i64 pa8, .int .i64 pa9, .int .i64 pa10, .int .i64 pa11, .int .i64 pa12, .int .i64 pa13, .int .i64 pa14, .int .i64 pa15, .int .i64 pa16, .int .i64 pa17, .int .i64 pa18, .int .i64 pa19, .int .i64 pa20, .int .i64 pa21, .int .i64 pa22, .int .i64 pa23], .agg #[.int .i64 va0, .int .i64 va1, .int .i64 va2, .int .i64 va3, .int .i64 va4, .int .i64 va5]].toArray w (Rets (v3 (Po.app (⟨⟨⟨⟨pa0, pa1⟩, ⟨pa2, pa3⟩, ⟨pa4, pa5⟩⟩, ⟨⟨pa6, pa7⟩, ⟨pa8, pa9⟩, ⟨pa10, pa11⟩⟩, ⟨⟨pa12, pa13⟩, ⟨pa14, pa15⟩, ⟨pa16, pa17⟩⟩⟩, ⟨⟨pa18, pa19⟩, ⟨pa20, pa21⟩, ⟨pa22, pa23⟩⟩⟩ : Po) (⟨⟨va0, va1⟩, ⟨va2, va3⟩, ⟨va4, va5⟩⟩ : V3))) (w)) := by
  refine calls_of_doC (n := 9) Try.func50 rfl rfl rfl ?_
  refine doC_seq ?_
  refine doC_region ?_
  refine doL_box 2 rfl rfl rfl rfl ?_; intro b2
  refine doL_box 3 rfl rfl rfl rfl ?_; intro b3
  refine doL_alloc 4 ze34 rfl rfl rfl ?_; intro b4
  refine doL_nil ?_
  refine post_then ?_
  refine doC_seq ?_
  refine doC_drawn 4 mo (by kernel_rfl) ?_
  simp only [List.take_succ_cons, List.take_zero, List.drop_succ_cons, List.drop_zero]
  refine doG_v (opV_loadA 2 ty63 rfl rfl rfl) rfl rfl rfl ?_
  refine doG_callNewF en97 rfl (fun w' _ => pMover _ _ _ _ _ _ _ _ _ _ _ _ _ _ _ _ _ _ _ _ _ _ _ _ w') rfl rfl rfl ?_
  refine doG_v (opV_loadA 3 ty34 rfl rfl rfl) rfl rfl rfl ?_
  refine doG_callFG (F := v3) (first := fun _ => []) (cap := fun b => [.pointer (some ⟨b, 0, none⟩)]) 6 rfl (fun _ => rfl) en127 (fun u => rfl) (fun b w _ hb => pMove _ _ _ _ _ _ _ _ _ _ _ _ _ _ _ _ _ _ _ _ _ _ _ _ _ _ _ _ _ _ _ w hb) (fun u => rfl) (by decide) rfl ?_; intro r8 hr8
  refine doG_nil ?_
  refine tail_ghost ?_; intro u6
  refine tail_nil ?_
  refine doL_store 4 ty34 rfl rfl rfl rfl rfl rfl rfl rfl ?_
  refine doL_nil ?_
  refine post_then ?_
  refine doC_ret ?_
  refine post_rets (rs := [.cell 4 34]) rfl (resC (resIs_cell 4 rfl rfl ty34 rfl) (resN)) (congrArg (v3) (?_ : ⟨⟨_, _⟩, ⟨_, _⟩, ⟨_, _⟩⟩ = Po.app (⟨⟨⟨⟨pa0, pa1⟩, ⟨pa2, pa3⟩, ⟨pa4, pa5⟩⟩, ⟨⟨pa6, pa7⟩, ⟨pa8, pa9⟩, ⟨pa10, pa11⟩⟩, ⟨⟨pa12, pa13⟩, ⟨pa14, pa15⟩, ⟨pa16, pa17⟩⟩⟩, ⟨⟨pa18, pa19⟩, ⟨pa20, pa21⟩, ⟨pa22, pa23⟩⟩⟩ : Po) (⟨⟨va0, va1⟩, ⟨va2, va3⟩, ⟨va4, va5⟩⟩ : V3)))
  subst_vars; rfl
theorem qApply (pa0 pa1 pa2 pa3 pa4 pa5 pa6 pa7 pa8 pa9 pa10 pa11 pa12 pa13 pa14 pa15 pa16 pa17 pa18 pa19 pa20 pa21 pa22 pa23 : Int) (va0 va1 va2 va3 va4 va5 : Int) (w : World) : Calls Try.prog 100 [.agg #[.int .i64 pa0, .int .i64 pa1, .int .i64 pa2, .int .i64 pa3, .int .i64 pa4, .int .i64 pa5, .int .i64 pa6, .int .i64 pa7, .int .i64 pa8, .int .i64 pa9, .int .i64 pa10, .int .i64 pa11, .int .i64 pa12, .int .i64 pa13, .int .i64 pa14, .int .i64 pa15, .int .i64 pa16, .int .i64 pa17, .int .i64 pa18, .int .i64 pa19, .int .i64 pa20, .int .i64 pa21, .int .i64 pa22, .int .i64 pa23], .agg #[.int .i64 va0, .int .i64 va1, .int .i64 va2, .int .i64 va3, .int .i64 va4, .int .i64 va5]].toArray w (Rets (v3 (Po.app (⟨⟨⟨⟨pa0, pa1⟩, ⟨pa2, pa3⟩, ⟨pa4, pa5⟩⟩, ⟨⟨pa6, pa7⟩, ⟨pa8, pa9⟩, ⟨pa10, pa11⟩⟩, ⟨⟨pa12, pa13⟩, ⟨pa14, pa15⟩, ⟨pa16, pa17⟩⟩⟩, ⟨⟨pa18, pa19⟩, ⟨pa20, pa21⟩, ⟨pa22, pa23⟩⟩⟩ : Po) (⟨⟨va0, va1⟩, ⟨va2, va3⟩, ⟨va4, va5⟩⟩ : V3))) (w)) := by
  refine calls_of_doC (n := 12) Try.func100 rfl rfl rfl ?_
  refine doC_seq ?_
  refine doC_region ?_
  refine doL_box 2 rfl rfl rfl rfl ?_; intro b2
  refine doL_box 3 rfl rfl rfl rfl ?_; intro b3
  refine doL_alloc 4 ze34 rfl rfl rfl ?_; intro b4
  refine doL_nil ?_
  refine post_then ?_
  refine doC_seq ?_
  refine doC_drawn 7 mo (by kernel_rfl) ?_
  simp only [List.take_succ_cons, List.take_zero, List.drop_succ_cons, List.drop_zero]
  refine doG_v (opV_fieldAddr fa63_1 rfl) rfl rfl rfl ?_
  refine doG_v (opV_loadA 2 ty34 rfl rfl rfl) rfl rfl rfl ?_
  refine doG_v (opV_fieldAddr fa63_0 rfl) rfl rfl rfl ?_
  refine doG_v (opV_loadA 2 ty28 rfl rfl rfl) rfl rfl rfl ?_
  refine doG_v (opV_loadA 3 ty34 rfl rfl rfl) rfl rfl rfl ?_
  refine doG_vg (F := v3) (opV_call en90 rfl (fun w _ => rApply _ _ _ _ _ _ _ _ _ _ _ _ _ _ _ _ _ _ _ _ _ _ _ _  w)) rfl rfl rfl ?_; intro r10 hr10
  refine doG_vg (F := v3) (opV_call en55 rfl (fun w _ => rAddVec _ _ _ _ _ _ _ _ _ _ _ _  w)) rfl rfl rfl ?_; intro r11 hr11
  refine doG_nil ?_
  refine tail_nil ?_
  refine doL_store 4 ty34 rfl rfl rfl rfl rfl rfl rfl rfl ?_
  refine doL_nil ?_
  refine post_then ?_
  refine doC_ret ?_
  refine post_rets (rs := [.cell 4 34]) rfl (resC (resIs_cell 4 rfl rfl ty34 rfl) (resN)) (congrArg (v3) (?_ : ⟨⟨_, _⟩, ⟨_, _⟩, ⟨_, _⟩⟩ = Po.app (⟨⟨⟨⟨pa0, pa1⟩, ⟨pa2, pa3⟩, ⟨pa4, pa5⟩⟩, ⟨⟨pa6, pa7⟩, ⟨pa8, pa9⟩, ⟨pa10, pa11⟩⟩, ⟨⟨pa12, pa13⟩, ⟨pa14, pa15⟩, ⟨pa16, pa17⟩⟩⟩, ⟨⟨pa18, pa19⟩, ⟨pa20, pa21⟩, ⟨pa22, pa23⟩⟩⟩ : Po) (⟨⟨va0, va1⟩, ⟨va2, va3⟩, ⟨va4, va5⟩⟩ : V3)))
  subst_vars; rfl
end Go.Proofs.Ytonampcmhhhffaa
namespace Go.Proofs.Ytonampcmhhhffaa
open Go.Sx
theorem sl113 : slcB Try.prog 113 38 3 = true := by kernel_rfl
theorem ze38 : zeroIs Try.prog 38 (.agg #[.int .i64 0, .int .i64 0, .int .i64 0]) := by unfold zeroIs; kernel_rfl
theorem app113 : appB Try.prog 113 38 3 24 = true := by kernel_rfl
theorem mkPoints {b : Nat} {sl : Value} {L : List Int} {i : Nat} (ca0 ca1 ca2 : Int) (hc : -1000000000 ≤ ca0 ∧ ca0 ≤ 1000000000 ∧ -1000000000 ≤ ca1 ∧ ca1 ≤ 1000000000 ∧ -1000000000 ≤ ca2 ∧ ca2 ≤ 1000000000) (w : World) (hs : Src w b sl L i) : Calls Try.prog 99 [.pointer (some ⟨b, 0, none⟩), .agg #[.int .i64 ca0, .int .i64 ca1, .int .i64 ca2]].toArray w (RetsF (X := Option Addr × Nat) (fun _ => True) (fun x => .slice x.1 (ptsN L i + 1) x.2) (fun x => SlcIs 3 x.1 ((ptsOf L i ⟨ca0, ca1, ca2⟩ (ptsN L i)).map z3c)) (srcW w b sl L (i + 1 + 3 * ptsN L i))) := by
  refine calls_src (n := 38) hs Try.func99 rfl rfl rfl ?_
  refine doC_seq ?_
  refine doC_region ?_
  refine doL_box 3 rfl rfl rfl rfl ?_; intro b3
  refine doL_v (opV_assign rfl) rfl rfl rfl ?_
  refine doL_nil ?_
  refine post_then ?_
  refine doC_seq ?_
  refine doC_region ?_
  refine doL_v (opV_loadA 3 ty38 rfl rfl rfl) rfl rfl rfl ?_
  refine doL_bslice 8 sl113 ze38 rfl rfl rfl rfl rfl rfl rfl rfl ?_; intro b8
  refine doL_v (opV_assign rfl) rfl rfl rfl ?_
  refine doL_nil ?_
  refine post_then ?_
  refine doC_seq ?_
  refine doC_seq ?_
  refine doC_toOwnA 8 1 3 rfl rfl rfl rfl ?_
  refine doC_region ?_
  refine doL_v (opV_move rfl) rfl rfl rfl ?_
  refine doL_srcA (F := vI) hs en30 rfl (fun w' h => srcNext _ (by first | omega | assumption | (unfold In64; omega) | decide) w' h) rfl rfl ?_; intro r10 hr10
  have br10 := srcR_b hr10 (by first | decide | omega)
  obtain rfl : r10 = ((ptsN L i : Nat) : Int) := by rw [hr10]; unfold ptsN; have := srcR_bnd L i (k := 4) (by decide); omega
  refine doL_v (opV_assign rfl) rfl rfl rfl ?_
  refine doL_nil ?_
  refine post_then ?_
  refine doC_block ?_
  refine doC_loopK [0, 3] [3] (α := Nat × Option Addr × Nat) (fun x => ptsN L i - x.1) (fun x => x.1 ≤ ptsN L i) (fun x => srcB ⟨w, [(8, ownD x.2.1, OwnF 0 38 3 x.2.1 x.2.2 (x.1 + 1) (ptsC L i ⟨ca0, ca1, ca2⟩ x.1))]⟩ b sl L (i + 1 + 3 * x.1)) (fun x => [(5, .slice x.2.1 (x.1 + 1) x.2.2), (6, .int .i64 ((ptsN L i - x.1 : Nat) : Int))]) (fun _ => []) (0, some ⟨b8, 0, none⟩, 1) rfl rfl ?_ ?_ ?_ ?_ rfl ?_
  ·
    exact Nat.zero_le _
  ·
    exact rfl
  ·
    repeat' first | exact trivial | exact True.intro | refine ⟨rfl, ?_⟩
  ·
    repeat' first | exact trivial | exact True.intro | refine ⟨rfl, ?_⟩
  rintro ⟨k, a, cap⟩ hk
  dsimp only at hk ⊢
  have hb3 := ptsN_b L i
  refine doC_seq ?_
  refine doC_seq ?_
  refine doC_region ?_
  refine doL_v (opV_move rfl) rfl rfl rfl ?_
  refine doL_v (opV_gtr rfl rfl) rfl rfl rfl ?_
  refine doL_nil ?_
  refine post_then ?_
  refine doC_cond rfl (fun hc12 => ?_) (fun hc12 => ?_)
  ·
    have h2 : k < ptsN L i := by have := of_decide_eq_true hc12; omega
    refine doC_skip ?_
    refine post_then ?_
    refine doC_seq ?_
    refine doC_block ?_
    refine doC_srcA 21 [4, 10, 16] hs mo (by kernel_rfl) ?_
    simp only [List.take_succ_cons, List.take_zero, List.drop_succ_cons, List.drop_zero]
    refine doM_v (fun _ => opV_move rfl) rfl rfl rfl rfl ?_
    refine doM_v (fun _ => opV_indexAddr ar38 rfl rfl (by first | decide | omega) (by first | decide | omega)) rfl rfl rfl rfl ?_
    refine doM_v (fun _ => opV_load1 3 ty2 rfl rfl rfl) rfl rfl rfl rfl ?_
    refine doM_v (fun _ => opV_move rfl) rfl rfl rfl rfl ?_
    refine doM_srcA (F := vI) hs en28 rfl (fun w' h => srcSigned _ (by first | omega | assumption | (unfold In64; omega) | decide) w' h) rfl rfl rfl ?_; intro r19 hr19
    have br19 := srcS_b hr19 (by first | decide | omega)
    refine doM_v (fun _ => opV_mul rfl rfl (by first | exact i64_in ⟨by omega, by omega⟩ | rfl)) rfl rfl rfl rfl ?_
    refine doM_v (fun _ => opV_add rfl rfl (by first | exact i64_in ⟨by omega, by omega⟩ | rfl)) rfl rfl rfl rfl ?_
    refine doM_v (fun _ => opV_indexAddr ar38 rfl rfl (by first | decide | omega) (by first | decide | omega)) rfl rfl rfl rfl ?_
    refine doM_v (fun _ => opV_load1 3 ty2 rfl rfl rfl) rfl rfl rfl rfl ?_
    refine doM_v (fun _ => opV_move rfl) rfl rfl rfl rfl ?_
    refine doM_srcA (F := vI) hs en28 rfl (fun w' h => srcSigned _ (by first | omega | assumption | (unfold In64; omega) | decide) w' h) rfl rfl rfl ?_; intro r25 hr25
    have br25 := srcS_b hr25 (by first | decide | omega)
    refine doM_v (fun _ => opV_mul rfl rfl (by first | exact i64_in ⟨by omega, by omega⟩ | rfl)) rfl rfl rfl rfl ?_
    refine doM_v (fun _ => opV_add rfl rfl (by first | exact i64_in ⟨by omega, by omega⟩ | rfl)) rfl rfl rfl rfl ?_
    refine doM_v (fun _ => opV_indexAddr ar38 rfl rfl (by first | decide | omega) (by first | decide | omega)) rfl rfl rfl rfl ?_
    refine doM_v (fun _ => opV_load1 3 ty2 rfl rfl rfl) rfl rfl rfl rfl ?_
    refine doM_v (fun _ => opV_move rfl) rfl rfl rfl rfl ?_
    refine doM_srcA (F := vI) hs en28 rfl (fun w' h => srcSigned _ (by first | omega | assumption | (unfold In64; omega) | decide) w' h) rfl rfl rfl ?_; intro r31 hr31
    have br31 := srcS_b hr31 (by first | decide | omega)
    refine doM_v (fun _ => opV_mul rfl rfl (by first | exact i64_in ⟨by omega, by omega⟩ | rfl)) rfl rfl rfl rfl ?_
    refine doM_v (fun _ => opV_add rfl rfl (by first | exact i64_in ⟨by omega, by omega⟩ | rfl)) rfl rfl rfl rfl ?_
    refine doM_v (fun _ => opV_build la38 rfl rfl) rfl rfl rfl rfl ?_
    refine doM_bslice (famA hs _) sl113 ze38 rfl rfl rfl rfl rfl rfl rfl rfl rfl rfl ?_
    refine doM_nil ?_
    refine tail_row ?_; intro bb35
    refine tail_appendA 8 app113 rfl rfl rfl rfl rfl rfl (by omega) (by omega) rfl rfl ?_; intro a36 c36 R36 hR36
    obtain rfl := Option.some.inj hR36
    refine doL_v (opV_assign rfl) rfl rfl rfl ?_
    refine doL_nil ?_
    refine post_block_normal ?_
    refine post_then ?_
    refine doC_region ?_
    refine doL_v (opV_move rfl) rfl rfl rfl ?_
    refine doL_v (opV_sub rfl rfl (dec_rem (by omega) h2)) rfl rfl rfl ?_
    refine doL_v (opV_assign rfl) rfl rfl rfl ?_
    refine doL_nil ?_
    refine post_again (k + 1, a36, c36) (by show k + 1 ≤ _; omega) (by show ptsN L i - (k + 1) < ptsN L i - k; omega) (by dsimp only; rw [ptsC_succ, hr19, hr25, hr31]; rfl) ?_ ?_ rfl
    repeat' first | exact trivial | exact True.intro | refine ⟨rfl, ?_⟩
  ·
    obtain rfl : k = ptsN L i := by have := of_decide_eq_false hc12; omega
    refine doC_exit ?_
    refine post_then_exit ?_
    refine post_then_exit ?_
    refine post_block_exit ?_
    refine post_then ?_
    refine doC_seq ?_
    refine doC_region ?_
    refine doL_v (opV_move rfl) rfl rfl rfl ?_
    refine doL_v (opV_assign rfl) rfl rfl rfl ?_
    refine doL_nil ?_
    refine post_then ?_
    refine doC_ret ?_
    refine post_ret (rs := [.tmp 4]) rfl (resC (resIs_tmp rfl) (resN)) rfl ?_
    intro w2 k2
    obtain ⟨_, q2, q3⟩ := k2.facts _ List.mem_cons_self
    exact ⟨(a, cap), trivial, rfl, k2.grow, ownD a, slc_dep _ _ _, fun q hq => ⟨(q2 q hq).1, (q2 q hq).2.1⟩, pts_slc q3⟩
end Go.Proofs.Ytonampcmhhhffaa

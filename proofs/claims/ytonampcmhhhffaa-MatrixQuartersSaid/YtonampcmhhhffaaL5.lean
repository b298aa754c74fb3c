/- The walks of MatrixAdds and MatrixQuarters. No condition. -/
import Derived.Test.YtonampcmhhhffaaProg
import Derived.Test.YtonampcmhhhffaaSxLate
import Derived.Test.YtonampcmhhhffaaMatLaw4
import Derived.Test.YtonampcmhhhffaaA1
import Derived.Test.YtonampcmhhhffaaA2
import Derived.Test.YtonampcmhhhffaaM1
import Derived.Test.YtonampcmhhhffaaM2
import Derived.Test.YtonampcmhhhffaaL4
namespace Go.Proofs.Ytonampcmhhhffaa
open Go.Sx
theorem en34 : Enters Try.prog 34 := enters_of Try.func34 (by kernel_rfl) (by kernel_rfl)
theorem en32 : Enters Try.prog 32 := enters_of Try.func32 (by kernel_rfl) (by kernel_rfl)
theorem ty38 : tyB Try.prog 38 true 3 = true := by kernel_rfl
theorem en36 : Enters Try.prog 36 := enters_of Try.func36 (by kernel_rfl) (by kernel_rfl)
theorem ag23 : aggB Try.prog 23 = true := by kernel_rfl
theorem ce23 (a0 a1 : Int) : cellsB Try.prog 4 23 [.int .i64 a0, .int .i64 a1] = true := by kernel_rfl

theorem meet_snd (a b : Iv) : (Iv.meet a b).2 = Iv.meetB a b := by
  unfold Iv.meet; cases Iv.meetB a b <;> rfl

set_option maxRecDepth 100000 in
theorem wAdds4 (axis : Int) (a : Int) (b : Int) (w : World) : Calls Try.prog 6 [.int .i64 axis, .int .i64 a, .int .i64 b].toArray w (Rets (vB (true)) w) := by
  refine calls_of_doC (n := 64) Try.func6 rfl rfl rfl ?_
  refine doC_seq ?_
  refine doC_region ?_
  refine doL_v (opV_assign rfl) rfl rfl rfl ?_
  refine doL_nil ?_
  refine post_then ?_
  refine doC_seq ?_
  refine doC_region ?_
  refine doL_v (opV_move rfl) rfl rfl rfl ?_
  refine doL_vg (F := vI) (opV_call en22 rfl (fun w _ => mRound _ _ (by first | omega | assumption | (unfold In64; omega) | decide) w)) rfl rfl rfl ?_; intro r17 hr17
  refine doL_v (opV_assign rfl) rfl rfl rfl ?_
  refine doL_nil ?_
  refine post_then ?_
  refine doC_seq ?_
  refine doC_region ?_
  refine doL_v (opV_move rfl) rfl rfl rfl ?_
  refine doL_vg (F := vI) (opV_call en22 rfl (fun w _ => mRound _ _ (by first | omega | assumption | (unfold In64; omega) | decide) w)) rfl rfl rfl ?_; intro r19 hr19
  refine doL_v (opV_sub rfl rfl (by first | exact i64_in ⟨by omega, by omega⟩ | rfl)) rfl rfl rfl ?_
  refine doL_v (opV_move rfl) rfl rfl rfl ?_
  refine doL_vg (F := vI) (opV_call en22 rfl (fun w _ => mRound _ _ (by first | omega | assumption | (unfold In64; omega) | decide) w)) rfl rfl rfl ?_; intro r22 hr22
  refine doL_v (opV_sub rfl rfl (by first | exact i64_in ⟨by omega, by omega⟩ | rfl)) rfl rfl rfl ?_
  refine doL_v (opV_assign rfl) rfl rfl rfl ?_
  refine doL_v (opV_assign rfl) rfl rfl rfl ?_
  refine doL_nil ?_
  refine post_then ?_
  refine doC_seq ?_
  refine doC_region ?_
  refine doL_v (opV_move rfl) rfl rfl rfl ?_
  refine doL_v (opV_move rfl) rfl rfl rfl ?_
  refine doL_vg (F := iv) (opV_call en31 rfl (fun w _ => rOf _  w)) rfl rfl rfl ?_; intro r26 hr26
  refine doL_vg (F := m3) (opV_call en24 rfl (fun w _ => mTurn _ _ _  w)) rfl rfl rfl ?_; intro r27 hr27
  refine doL_v (opV_move rfl) rfl rfl rfl ?_
  refine doL_v (opV_move rfl) rfl rfl rfl ?_
  refine doL_vg (F := iv) (opV_call en31 rfl (fun w _ => rOf _  w)) rfl rfl rfl ?_; intro r30 hr30
  refine doL_vg (F := m3) (opV_call en24 rfl (fun w _ => mTurn _ _ _  w)) rfl rfl rfl ?_; intro r31 hr31
  refine doL_vg (F := m3) (opV_call en34 rfl (fun w _ => mCompose _ _ _ _ _ _ _ _ _ _ _ _ _ _ _ _ _ _ _ _ _ _ _ _ _ _ _ _ _ _ _ _ _ _ _ _  w)) rfl rfl rfl ?_; intro r32 hr32
  refine doL_v (opV_move rfl) rfl rfl rfl ?_
  refine doL_v (opV_move rfl) rfl rfl rfl ?_
  refine doL_v (opV_move rfl) rfl rfl rfl ?_
  refine doL_v (opV_add rfl rfl (by first | exact i64_in ⟨by omega, by omega⟩ | rfl)) rfl rfl rfl ?_
  refine doL_vg (F := iv) (opV_call en31 rfl (fun w _ => rOf _  w)) rfl rfl rfl ?_; intro r37 hr37
  refine doL_vg (F := m3) (opV_call en24 rfl (fun w _ => mTurn _ _ _  w)) rfl rfl rfl ?_; intro r38 hr38
  refine doL_alloc 10 ze28 rfl rfl rfl ?_; intro b10
  refine doL_alloc 11 ze28 rfl rfl rfl ?_; intro b11
  refine doL_store 10 ty28 rfl rfl rfl rfl rfl rfl rfl rfl ?_
  refine doL_store 11 ty28 rfl rfl rfl rfl rfl rfl rfl rfl ?_
  refine doL_nil ?_
  refine post_then ?_
  refine doC_seq ?_
  refine doC_seq ?_
  have mm : MMeet r32 r38 := by
    rw [hr32, hr38, hr27, hr31, hr26, hr30, hr37]; exact adds_mat (by omega) (by omega) (by omega)
  refine doC_region ?_
  refine doL_v (opV_assign rfl) rfl rfl rfl ?_
  refine doL_nil ?_
  refine post_then ?_
  refine doC_block ?_
  refine doC_rounds 4 ?_
  refine doR_succ ?_
  refine doC_seq ?_
  refine doC_seq ?_
  refine doC_region ?_
  refine doL_v (opV_move rfl) rfl rfl rfl ?_
  refine doL_v (opV_lss rfl rfl) rfl rfl rfl ?_
  refine doL_nil ?_
  refine post_then ?_
  refine doC_cond_t rfl (by decide) ?_
  refine doC_skip ?_
  refine post_then ?_
  refine doC_seq ?_
  refine doC_block ?_
  refine doC_seq ?_
  refine doC_region ?_
  refine doL_v (opV_assign rfl) rfl rfl rfl ?_
  refine doL_nil ?_
  refine post_then ?_
  refine doC_block ?_
  refine doC_rounds 4 ?_
  refine doR_succ ?_
  refine doC_seq ?_
  refine doC_seq ?_
  refine doC_region ?_
  refine doL_v (opV_move rfl) rfl rfl rfl ?_
  refine doL_v (opV_lss rfl rfl) rfl rfl rfl ?_
  refine doL_nil ?_
  refine post_then ?_
  refine doC_cond_t rfl (by decide) ?_
  refine doC_skip ?_
  refine post_then ?_
  refine doC_seq ?_
  refine doC_block ?_
  refine doC_seq ?_
  refine doC_keep (ks := [6, 7, 8, 9, 10, 11, 12, 13]) rfl ?_
  refine doC_keepH (ks := [10, 11]) rfl ?_
  refine doC_late 15 13 (by repeat (first | exact putP_body | refine putP_then ?_ | refine putP_block ?_)) mo (by kernel_rfl) ?_
  simp only [List.take_succ_cons, List.take_zero, List.drop_succ_cons, List.drop_zero]
  refine doG_v (opV_move rfl) rfl rfl rfl ?_
  refine doG_v (opV_move rfl) rfl rfl rfl ?_
  refine doG_v (opV_indexAddr ar28 rfl rfl (by first | decide | omega) (by first | decide | omega)) rfl rfl rfl ?_
  refine doG_v (opV_indexAddr ar26 rfl rfl (by first | decide | omega) (by first | decide | omega)) rfl rfl rfl ?_
  refine doG_v (opV_loadA 10 ty23 rfl rfl rfl) rfl rfl rfl ?_
  refine doG_v (opV_move rfl) rfl rfl rfl ?_
  refine doG_v (opV_move rfl) rfl rfl rfl ?_
  refine doG_v (opV_indexAddr ar28 rfl rfl (by first | decide | omega) (by first | decide | omega)) rfl rfl rfl ?_
  refine doG_v (opV_indexAddr ar26 rfl rfl (by first | decide | omega) (by first | decide | omega)) rfl rfl rfl ?_
  refine doG_v (opV_loadA 11 ty23 rfl rfl rfl) rfl rfl rfl ?_
  refine doG_vg (F := ivB) (opV_call en32 rfl (fun w _ => rMeet _ _ _ _  w)) rfl rfl rfl ?_; intro r58 hr58
  refine doG_v (opV_move rfl) rfl rfl rfl ?_
  refine doG_v (opV_extract rfl rfl) rfl rfl rfl ?_
  refine doG_v (opV_extract rfl rfl) rfl rfl rfl ?_
  refine doG_alloc ze23 rfl rfl rfl rfl ?_
  refine doG_nil ?_
  refine tail_alloc 14 rfl ?_; intro b14_2
  refine tail_nil ?_
  refine doL_store 14 ty23 rfl rfl rfl rfl rfl rfl rfl rfl ?_
  refine doL_v (opV_assign rfl) rfl rfl rfl ?_
  refine doL_nil ?_
  refine post_then ?_
  refine doC_seq ?_
  refine doC_region ?_
  refine doL_v (opV_move rfl) rfl rfl rfl ?_
  refine doL_v (opV_not rfl) rfl rfl rfl ?_
  refine doL_nil ?_
  refine post_then ?_
  refine doC_cond_f rfl (congrArg not ((congrArg Prod.snd hr58).trans ((meet_snd _ _).trans mm.x.x))) ?_
  refine doC_skip ?_
  refine post_block_normal ?_
  refine post_then ?_
  refine doC_region ?_
  refine doL_v (opV_move rfl) rfl rfl rfl ?_
  refine doL_v (opV_add rfl rfl (by first | exact i64_in ⟨by omega, by omega⟩ | rfl)) rfl rfl rfl ?_
  refine doL_v (opV_assign rfl) rfl rfl rfl ?_
  refine doL_nil ?_
  refine post_rounds ?_
  refine doR_succ ?_
  refine doC_seq ?_
  refine doC_seq ?_
  refine doC_region ?_
  refine doL_v (opV_move rfl) rfl rfl rfl ?_
  refine doL_v (opV_lss rfl rfl) rfl rfl rfl ?_
  refine doL_nil ?_
  refine post_then ?_
  refine doC_cond_t rfl (by decide) ?_
  refine doC_skip ?_
  refine post_then ?_
  refine doC_seq ?_
  refine doC_block ?_
  refine doC_seq ?_
  refine doC_keep (ks := [6, 7, 8, 9, 10, 11, 12, 13]) rfl ?_
  refine doC_keepH (ks := [10, 11]) rfl ?_
  refine doC_late 15 13 (by repeat (first | exact putP_body | refine putP_then ?_ | refine putP_block ?_)) mo (by kernel_rfl) ?_
  simp only [List.take_succ_cons, List.take_zero, List.drop_succ_cons, List.drop_zero]
  refine doG_v (opV_move rfl) rfl rfl rfl ?_
  refine doG_v (opV_move rfl) rfl rfl rfl ?_
  refine doG_v (opV_indexAddr ar28 rfl rfl (by first | decide | omega) (by first | decide | omega)) rfl rfl rfl ?_
  refine doG_v (opV_indexAddr ar26 rfl rfl (by first | decide | omega) (by first | decide | omega)) rfl rfl rfl ?_
  refine doG_v (opV_loadA 10 ty23 rfl rfl rfl) rfl rfl rfl ?_
  refine doG_v (opV_move rfl) rfl rfl rfl ?_
  refine doG_v (opV_move rfl) rfl rfl rfl ?_
  refine doG_v (opV_indexAddr ar28 rfl rfl (by first | decide | omega) (by first | decide | omega)) rfl rfl rfl ?_
  refine doG_v (opV_indexAddr ar26 rfl rfl (by first | decide | omega) (by first | decide | omega)) rfl rfl rfl ?_
  refine doG_v (opV_loadA 11 ty23 rfl rfl rfl) rfl rfl rfl ?_
  refine doG_vg (F := ivB) (opV_call en32 rfl (fun w _ => rMeet _ _ _ _  w)) rfl rfl rfl ?_; intro r58_2 hr58_2
  refine doG_v (opV_move rfl) rfl rfl rfl ?_
  refine doG_v (opV_extract rfl rfl) rfl rfl rfl ?_
  refine doG_v (opV_extract rfl rfl) rfl rfl rfl ?_
  refine doG_alloc ze23 rfl rfl rfl rfl ?_
  refine doG_nil ?_
  refine tail_alloc 14 rfl ?_; intro b14_4
  refine tail_nil ?_
  refine doL_store 14 ty23 rfl rfl rfl rfl rfl rfl rfl rfl ?_
  refine doL_v (opV_assign rfl) rfl rfl rfl ?_
  refine doL_nil ?_
  refine post_then ?_
  refine doC_seq ?_
  refine doC_region ?_
  refine doL_v (opV_move rfl) rfl rfl rfl ?_
  refine doL_v (opV_not rfl) rfl rfl rfl ?_
  refine doL_nil ?_
  refine post_then ?_
  refine doC_cond_f rfl (congrArg not ((congrArg Prod.snd hr58_2).trans ((meet_snd _ _).trans mm.x.y))) ?_
  refine doC_skip ?_
  refine post_block_normal ?_
  refine post_then ?_
  refine doC_region ?_
  refine doL_v (opV_move rfl) rfl rfl rfl ?_
  refine doL_v (opV_add rfl rfl (by first | exact i64_in ⟨by omega, by omega⟩ | rfl)) rfl rfl rfl ?_
  refine doL_v (opV_assign rfl) rfl rfl rfl ?_
  refine doL_nil ?_
  refine post_rounds ?_
  refine doR_succ ?_
  refine doC_seq ?_
  refine doC_seq ?_
  refine doC_region ?_
  refine doL_v (opV_move rfl) rfl rfl rfl ?_
  refine doL_v (opV_lss rfl rfl) rfl rfl rfl ?_
  refine doL_nil ?_
  refine post_then ?_
  refine doC_cond_t rfl (by decide) ?_
  refine doC_skip ?_
  refine post_then ?_
  refine doC_seq ?_
  refine doC_block ?_
  refine doC_seq ?_
  refine doC_keep (ks := [6, 7, 8, 9, 10, 11, 12, 13]) rfl ?_
  refine doC_keepH (ks := [10, 11]) rfl ?_
  refine doC_late 15 13 (by repeat (first | exact putP_body | refine putP_then ?_ | refine putP_block ?_)) mo (by kernel_rfl) ?_
  simp only [List.take_succ_cons, List.take_zero, List.drop_succ_cons, List.drop_zero]
  refine doG_v (opV_move rfl) rfl rfl rfl ?_
  refine doG_v (opV_move rfl) rfl rfl rfl ?_
  refine doG_v (opV_indexAddr ar28 rfl rfl (by first | decide | omega) (by first | decide | omega)) rfl rfl rfl ?_
  refine doG_v (opV_indexAddr ar26 rfl rfl (by first | decide | omega) (by first | decide | omega)) rfl rfl rfl ?_
  refine doG_v (opV_loadA 10 ty23 rfl rfl rfl) rfl rfl rfl ?_
  refine doG_v (opV_move rfl) rfl rfl rfl ?_
  refine doG_v (opV_move rfl) rfl rfl rfl ?_
  refine doG_v (opV_indexAddr ar28 rfl rfl (by first | decide | omega) (by first | decide | omega)) rfl rfl rfl ?_
  refine doG_v (opV_indexAddr ar26 rfl rfl (by first | decide | omega) (by first | decide | omega)) rfl rfl rfl ?_
  refine doG_v (opV_loadA 11 ty23 rfl rfl rfl) rfl rfl rfl ?_
  refine doG_vg (F := ivB) (opV_call en32 rfl (fun w _ => rMeet _ _ _ _  w)) rfl rfl rfl ?_; intro r58_3 hr58_3
  refine doG_v (opV_move rfl) rfl rfl rfl ?_
  refine doG_v (opV_extract rfl rfl) rfl rfl rfl ?_
  refine doG_v (opV_extract rfl rfl) rfl rfl rfl ?_
  refine doG_alloc ze23 rfl rfl rfl rfl ?_
  refine doG_nil ?_
  refine tail_alloc 14 rfl ?_; intro b14_6
  refine tail_nil ?_
  refine doL_store 14 ty23 rfl rfl rfl rfl rfl rfl rfl rfl ?_
  refine doL_v (opV_assign rfl) rfl rfl rfl ?_
  refine doL_nil ?_
  refine post_then ?_
  refine doC_seq ?_
  refine doC_region ?_
  refine doL_v (opV_move rfl) rfl rfl rfl ?_
  refine doL_v (opV_not rfl) rfl rfl rfl ?_
  refine doL_nil ?_
  refine post_then ?_
  refine doC_cond_f rfl (congrArg not ((congrArg Prod.snd hr58_3).trans ((meet_snd _ _).trans mm.x.z))) ?_
  refine doC_skip ?_
  refine post_block_normal ?_
  refine post_then ?_
  refine doC_region ?_
  refine doL_v (opV_move rfl) rfl rfl rfl ?_
  refine doL_v (opV_add rfl rfl (by first | exact i64_in ⟨by omega, by omega⟩ | rfl)) rfl rfl rfl ?_
  refine doL_v (opV_assign rfl) rfl rfl rfl ?_
  refine doL_nil ?_
  refine post_rounds ?_
  refine doR_succ ?_
  refine doC_seq ?_
  refine doC_seq ?_
  refine doC_region ?_
  refine doL_v (opV_move rfl) rfl rfl rfl ?_
  refine doL_v (opV_lss rfl rfl) rfl rfl rfl ?_
  refine doL_nil ?_
  refine post_then ?_
  refine doC_cond_f rfl (by decide) ?_
  refine doC_exit ?_
  refine post_then_exit ?_
  refine post_then_exit ?_
  refine post_block_exit ?_
  refine post_block_normal ?_
  refine post_then ?_
  refine doC_region ?_
  refine doL_v (opV_move rfl) rfl rfl rfl ?_
  refine doL_v (opV_add rfl rfl (by first | exact i64_in ⟨by omega, by omega⟩ | rfl)) rfl rfl rfl ?_
  refine doL_v (opV_assign rfl) rfl rfl rfl ?_
  refine doL_nil ?_
  refine post_rounds ?_
  refine doR_succ ?_
  refine doC_seq ?_
  refine doC_seq ?_
  refine doC_region ?_
  refine doL_v (opV_move rfl) rfl rfl rfl ?_
  refine doL_v (opV_lss rfl rfl) rfl rfl rfl ?_
  refine doL_nil ?_
  refine post_then ?_
  refine doC_cond_t rfl (by decide) ?_
  refine doC_skip ?_
  refine post_then ?_
  refine doC_seq ?_
  refine doC_block ?_
  refine doC_seq ?_
  refine doC_region ?_
  refine doL_v (opV_assign rfl) rfl rfl rfl ?_
  refine doL_nil ?_
  refine post_then ?_
  refine doC_block ?_
  refine doC_rounds 4 ?_
  refine doR_succ ?_
  refine doC_seq ?_
  refine doC_seq ?_
  refine doC_region ?_
  refine doL_v (opV_move rfl) rfl rfl rfl ?_
  refine doL_v (opV_lss rfl rfl) rfl rfl rfl ?_
  refine doL_nil ?_
  refine post_then ?_
  refine doC_cond_t rfl (by decide) ?_
  refine doC_skip ?_
  refine post_then ?_
  refine doC_seq ?_
  refine doC_block ?_
  refine doC_seq ?_
  refine doC_keep (ks := [6, 7, 8, 9, 10, 11, 12, 13]) rfl ?_
  refine doC_keepH (ks := [10, 11]) rfl ?_
  refine doC_late 15 13 (by repeat (first | exact putP_body | refine putP_then ?_ | refine putP_block ?_)) mo (by kernel_rfl) ?_
  simp only [List.take_succ_cons, List.take_zero, List.drop_succ_cons, List.drop_zero]
  refine doG_v (opV_move rfl) rfl rfl rfl ?_
  refine doG_v (opV_move rfl) rfl rfl rfl ?_
  refine doG_v (opV_indexAddr ar28 rfl rfl (by first | decide | omega) (by first | decide | omega)) rfl rfl rfl ?_
  refine doG_v (opV_indexAddr ar26 rfl rfl (by first | decide | omega) (by first | decide | omega)) rfl rfl rfl ?_
  refine doG_v (opV_loadA 10 ty23 rfl rfl rfl) rfl rfl rfl ?_
  refine doG_v (opV_move rfl) rfl rfl rfl ?_
  refine doG_v (opV_move rfl) rfl rfl rfl ?_
  refine doG_v (opV_indexAddr ar28 rfl rfl (by first | decide | omega) (by first | decide | omega)) rfl rfl rfl ?_
  refine doG_v (opV_indexAddr ar26 rfl rfl (by first | decide | omega) (by first | decide | omega)) rfl rfl rfl ?_
  refine doG_v (opV_loadA 11 ty23 rfl rfl rfl) rfl rfl rfl ?_
  refine doG_vg (F := ivB) (opV_call en32 rfl (fun w _ => rMeet _ _ _ _  w)) rfl rfl rfl ?_; intro r58_4 hr58_4
  refine doG_v (opV_move rfl) rfl rfl rfl ?_
  refine doG_v (opV_extract rfl rfl) rfl rfl rfl ?_
  refine doG_v (opV_extract rfl rfl) rfl rfl rfl ?_
  refine doG_alloc ze23 rfl rfl rfl rfl ?_
  refine doG_nil ?_
  refine tail_alloc 14 rfl ?_; intro b14_8
  refine tail_nil ?_
  refine doL_store 14 ty23 rfl rfl rfl rfl rfl rfl rfl rfl ?_
  refine doL_v (opV_assign rfl) rfl rfl rfl ?_
  refine doL_nil ?_
  refine post_then ?_
  refine doC_seq ?_
  refine doC_region ?_
  refine doL_v (opV_move rfl) rfl rfl rfl ?_
  refine doL_v (opV_not rfl) rfl rfl rfl ?_
  refine doL_nil ?_
  refine post_then ?_
  refine doC_cond_f rfl (congrArg not ((congrArg Prod.snd hr58_4).trans ((meet_snd _ _).trans mm.y.x))) ?_
  refine doC_skip ?_
  refine post_block_normal ?_
  refine post_then ?_
  refine doC_region ?_
  refine doL_v (opV_move rfl) rfl rfl rfl ?_
  refine doL_v (opV_add rfl rfl (by first | exact i64_in ⟨by omega, by omega⟩ | rfl)) rfl rfl rfl ?_
  refine doL_v (opV_assign rfl) rfl rfl rfl ?_
  refine doL_nil ?_
  refine post_rounds ?_
  refine doR_succ ?_
  refine doC_seq ?_
  refine doC_seq ?_
  refine doC_region ?_
  refine doL_v (opV_move rfl) rfl rfl rfl ?_
  refine doL_v (opV_lss rfl rfl) rfl rfl rfl ?_
  refine doL_nil ?_
  refine post_then ?_
  refine doC_cond_t rfl (by decide) ?_
  refine doC_skip ?_
  refine post_then ?_
  refine doC_seq ?_
  refine doC_block ?_
  refine doC_seq ?_
  refine doC_keep (ks := [6, 7, 8, 9, 10, 11, 12, 13]) rfl ?_
  refine doC_keepH (ks := [10, 11]) rfl ?_
  refine doC_late 15 13 (by repeat (first | exact putP_body | refine putP_then ?_ | refine putP_block ?_)) mo (by kernel_rfl) ?_
  simp only [List.take_succ_cons, List.take_zero, List.drop_succ_cons, List.drop_zero]
  refine doG_v (opV_move rfl) rfl rfl rfl ?_
  refine doG_v (opV_move rfl) rfl rfl rfl ?_
  refine doG_v (opV_indexAddr ar28 rfl rfl (by first | decide | omega) (by first | decide | omega)) rfl rfl rfl ?_
  refine doG_v (opV_indexAddr ar26 rfl rfl (by first | decide | omega) (by first | decide | omega)) rfl rfl rfl ?_
  refine doG_v (opV_loadA 10 ty23 rfl rfl rfl) rfl rfl rfl ?_
  refine doG_v (opV_move rfl) rfl rfl rfl ?_
  refine doG_v (opV_move rfl) rfl rfl rfl ?_
  refine doG_v (opV_indexAddr ar28 rfl rfl (by first | decide | omega) (by first | decide | omega)) rfl rfl rfl ?_
  refine doG_v (opV_indexAddr ar26 rfl rfl (by first | decide | omega) (by first | decide | omega)) rfl rfl rfl ?_
  refine doG_v (opV_loadA 11 ty23 rfl rfl rfl) rfl rfl rfl ?_
  refine doG_vg (F := ivB) (opV_call en32 rfl (fun w _ => rMeet _ _ _ _  w)) rfl rfl rfl ?_; intro r58_5 hr58_5
  refine doG_v (opV_move rfl) rfl rfl rfl ?_
  refine doG_v (opV_extract rfl rfl) rfl rfl rfl ?_
  refine doG_v (opV_extract rfl rfl) rfl rfl rfl ?_
  refine doG_alloc ze23 rfl rfl rfl rfl ?_
  refine doG_nil ?_
  refine tail_alloc 14 rfl ?_; intro b14_10
  refine tail_nil ?_
  refine doL_store 14 ty23 rfl rfl rfl rfl rfl rfl rfl rfl ?_
  refine doL_v (opV_assign rfl) rfl rfl rfl ?_
  refine doL_nil ?_
  refine post_then ?_
  refine doC_seq ?_
  refine doC_region ?_
  refine doL_v (opV_move rfl) rfl rfl rfl ?_
  refine doL_v (opV_not rfl) rfl rfl rfl ?_
  refine doL_nil ?_
  refine post_then ?_
  refine doC_cond_f rfl (congrArg not ((congrArg Prod.snd hr58_5).trans ((meet_snd _ _).trans mm.y.y))) ?_
  refine doC_skip ?_
  refine post_block_normal ?_
  refine post_then ?_
  refine doC_region ?_
  refine doL_v (opV_move rfl) rfl rfl rfl ?_
  refine doL_v (opV_add rfl rfl (by first | exact i64_in ⟨by omega, by omega⟩ | rfl)) rfl rfl rfl ?_
  refine doL_v (opV_assign rfl) rfl rfl rfl ?_
  refine doL_nil ?_
  refine post_rounds ?_
  refine doR_succ ?_
  refine doC_seq ?_
  refine doC_seq ?_
  refine doC_region ?_
  refine doL_v (opV_move rfl) rfl rfl rfl ?_
  refine doL_v (opV_lss rfl rfl) rfl rfl rfl ?_
  refine doL_nil ?_
  refine post_then ?_
  refine doC_cond_t rfl (by decide) ?_
  refine doC_skip ?_
  refine post_then ?_
  refine doC_seq ?_
  refine doC_block ?_
  refine doC_seq ?_
  refine doC_keep (ks := [6, 7, 8, 9, 10, 11, 12, 13]) rfl ?_
  refine doC_keepH (ks := [10, 11]) rfl ?_
  refine doC_late 15 13 (by repeat (first | exact putP_body | refine putP_then ?_ | refine putP_block ?_)) mo (by kernel_rfl) ?_
  simp only [List.take_succ_cons, List.take_zero, List.drop_succ_cons, List.drop_zero]
  refine doG_v (opV_move rfl) rfl rfl rfl ?_
  refine doG_v (opV_move rfl) rfl rfl rfl ?_
  refine doG_v (opV_indexAddr ar28 rfl rfl (by first | decide | omega) (by first | decide | omega)) rfl rfl rfl ?_
  refine doG_v (opV_indexAddr ar26 rfl rfl (by first | decide | omega) (by first | decide | omega)) rfl rfl rfl ?_
  refine doG_v (opV_loadA 10 ty23 rfl rfl rfl) rfl rfl rfl ?_
  refine doG_v (opV_move rfl) rfl rfl rfl ?_
  refine doG_v (opV_move rfl) rfl rfl rfl ?_
  refine doG_v (opV_indexAddr ar28 rfl rfl (by first | decide | omega) (by first | decide | omega)) rfl rfl rfl ?_
  refine doG_v (opV_indexAddr ar26 rfl rfl (by first | decide | omega) (by first | decide | omega)) rfl rfl rfl ?_
  refine doG_v (opV_loadA 11 ty23 rfl rfl rfl) rfl rfl rfl ?_
  refine doG_vg (F := ivB) (opV_call en32 rfl (fun w _ => rMeet _ _ _ _  w)) rfl rfl rfl ?_; intro r58_6 hr58_6
  refine doG_v (opV_move rfl) rfl rfl rfl ?_
  refine doG_v (opV_extract rfl rfl) rfl rfl rfl ?_
  refine doG_v (opV_extract rfl rfl) rfl rfl rfl ?_
  refine doG_alloc ze23 rfl rfl rfl rfl ?_
  refine doG_nil ?_
  refine tail_alloc 14 rfl ?_; intro b14_12
  refine tail_nil ?_
  refine doL_store 14 ty23 rfl rfl rfl rfl rfl rfl rfl rfl ?_
  refine doL_v (opV_assign rfl) rfl rfl rfl ?_
  refine doL_nil ?_
  refine post_then ?_
  refine doC_seq ?_
  refine doC_region ?_
  refine doL_v (opV_move rfl) rfl rfl rfl ?_
  refine doL_v (opV_not rfl) rfl rfl rfl ?_
  refine doL_nil ?_
  refine post_then ?_
  refine doC_cond_f rfl (congrArg not ((congrArg Prod.snd hr58_6).trans ((meet_snd _ _).trans mm.y.z))) ?_
  refine doC_skip ?_
  refine post_block_normal ?_
  refine post_then ?_
  refine doC_region ?_
  refine doL_v (opV_move rfl) rfl rfl rfl ?_
  refine doL_v (opV_add rfl rfl (by first | exact i64_in ⟨by omega, by omega⟩ | rfl)) rfl rfl rfl ?_
  refine doL_v (opV_assign rfl) rfl rfl rfl ?_
  refine doL_nil ?_
  refine post_rounds ?_
  refine doR_succ ?_
  refine doC_seq ?_
  refine doC_seq ?_
  refine doC_region ?_
  refine doL_v (opV_move rfl) rfl rfl rfl ?_
  refine doL_v (opV_lss rfl rfl) rfl rfl rfl ?_
  refine doL_nil ?_
  refine post_then ?_
  refine doC_cond_f rfl (by decide) ?_
  refine doC_exit ?_
  refine post_then_exit ?_
  refine post_then_exit ?_
  refine post_block_exit ?_
  refine post_block_normal ?_
  refine post_then ?_
  refine doC_region ?_
  refine doL_v (opV_move rfl) rfl rfl rfl ?_
  refine doL_v (opV_add rfl rfl (by first | exact i64_in ⟨by omega, by omega⟩ | rfl)) rfl rfl rfl ?_
  refine doL_v (opV_assign rfl) rfl rfl rfl ?_
  refine doL_nil ?_
  refine post_rounds ?_
  refine doR_succ ?_
  refine doC_seq ?_
  refine doC_seq ?_
  refine doC_region ?_
  refine doL_v (opV_move rfl) rfl rfl rfl ?_
  refine doL_v (opV_lss rfl rfl) rfl rfl rfl ?_
  refine doL_nil ?_
  refine post_then ?_
  refine doC_cond_t rfl (by decide) ?_
  refine doC_skip ?_
  refine post_then ?_
  refine doC_seq ?_
  refine doC_block ?_
  refine doC_seq ?_
  refine doC_region ?_
  refine doL_v (opV_assign rfl) rfl rfl rfl ?_
  refine doL_nil ?_
  refine post_then ?_
  refine doC_block ?_
  refine doC_rounds 4 ?_
  refine doR_succ ?_
  refine doC_seq ?_
  refine doC_seq ?_
  refine doC_region ?_
  refine doL_v (opV_move rfl) rfl rfl rfl ?_
  refine doL_v (opV_lss rfl rfl) rfl rfl rfl ?_
  refine doL_nil ?_
  refine post_then ?_
  refine doC_cond_t rfl (by decide) ?_
  refine doC_skip ?_
  refine post_then ?_
  refine doC_seq ?_
  refine doC_block ?_
  refine doC_seq ?_
  refine doC_keep (ks := [6, 7, 8, 9, 10, 11, 12, 13]) rfl ?_
  refine doC_keepH (ks := [10, 11]) rfl ?_
  refine doC_late 15 13 (by repeat (first | exact putP_body | refine putP_then ?_ | refine putP_block ?_)) mo (by kernel_rfl) ?_
  simp only [List.take_succ_cons, List.take_zero, List.drop_succ_cons, List.drop_zero]
  refine doG_v (opV_move rfl) rfl rfl rfl ?_
  refine doG_v (opV_move rfl) rfl rfl rfl ?_
  refine doG_v (opV_indexAddr ar28 rfl rfl (by first | decide | omega) (by first | decide | omega)) rfl rfl rfl ?_
  refine doG_v (opV_indexAddr ar26 rfl rfl (by first | decide | omega) (by first | decide | omega)) rfl rfl rfl ?_
  refine doG_v (opV_loadA 10 ty23 rfl rfl rfl) rfl rfl rfl ?_
  refine doG_v (opV_move rfl) rfl rfl rfl ?_
  refine doG_v (opV_move rfl) rfl rfl rfl ?_
  refine doG_v (opV_indexAddr ar28 rfl rfl (by first | decide | omega) (by first | decide | omega)) rfl rfl rfl ?_
  refine doG_v (opV_indexAddr ar26 rfl rfl (by first | decide | omega) (by first | decide | omega)) rfl rfl rfl ?_
  refine doG_v (opV_loadA 11 ty23 rfl rfl rfl) rfl rfl rfl ?_
  refine doG_vg (F := ivB) (opV_call en32 rfl (fun w _ => rMeet _ _ _ _  w)) rfl rfl rfl ?_; intro r58_7 hr58_7
  refine doG_v (opV_move rfl) rfl rfl rfl ?_
  refine doG_v (opV_extract rfl rfl) rfl rfl rfl ?_
  refine doG_v (opV_extract rfl rfl) rfl rfl rfl ?_
  refine doG_alloc ze23 rfl rfl rfl rfl ?_
  refine doG_nil ?_
  refine tail_alloc 14 rfl ?_; intro b14_14
  refine tail_nil ?_
  refine doL_store 14 ty23 rfl rfl rfl rfl rfl rfl rfl rfl ?_
  refine doL_v (opV_assign rfl) rfl rfl rfl ?_
  refine doL_nil ?_
  refine post_then ?_
  refine doC_seq ?_
  refine doC_region ?_
  refine doL_v (opV_move rfl) rfl rfl rfl ?_
  refine doL_v (opV_not rfl) rfl rfl rfl ?_
  refine doL_nil ?_
  refine post_then ?_
  refine doC_cond_f rfl (congrArg not ((congrArg Prod.snd hr58_7).trans ((meet_snd _ _).trans mm.z.x))) ?_
  refine doC_skip ?_
  refine post_block_normal ?_
  refine post_then ?_
  refine doC_region ?_
  refine doL_v (opV_move rfl) rfl rfl rfl ?_
  refine doL_v (opV_add rfl rfl (by first | exact i64_in ⟨by omega, by omega⟩ | rfl)) rfl rfl rfl ?_
  refine doL_v (opV_assign rfl) rfl rfl rfl ?_
  refine doL_nil ?_
  refine post_rounds ?_
  refine doR_succ ?_
  refine doC_seq ?_
  refine doC_seq ?_
  refine doC_region ?_
  refine doL_v (opV_move rfl) rfl rfl rfl ?_
  refine doL_v (opV_lss rfl rfl) rfl rfl rfl ?_
  refine doL_nil ?_
  refine post_then ?_
  refine doC_cond_t rfl (by decide) ?_
  refine doC_skip ?_
  refine post_then ?_
  refine doC_seq ?_
  refine doC_block ?_
  refine doC_seq ?_
  refine doC_keep (ks := [6, 7, 8, 9, 10, 11, 12, 13]) rfl ?_
  refine doC_keepH (ks := [10, 11]) rfl ?_
  refine doC_late 15 13 (by repeat (first | exact putP_body | refine putP_then ?_ | refine putP_block ?_)) mo (by kernel_rfl) ?_
  simp only [List.take_succ_cons, List.take_zero, List.drop_succ_cons, List.drop_zero]
  refine doG_v (opV_move rfl) rfl rfl rfl ?_
  refine doG_v (opV_move rfl) rfl rfl rfl ?_
  refine doG_v (opV_indexAddr ar28 rfl rfl (by first | decide | omega) (by first | decide | omega)) rfl rfl rfl ?_
  refine doG_v (opV_indexAddr ar26 rfl rfl (by first | decide | omega) (by first | decide | omega)) rfl rfl rfl ?_
  refine doG_v (opV_loadA 10 ty23 rfl rfl rfl) rfl rfl rfl ?_
  refine doG_v (opV_move rfl) rfl rfl rfl ?_
  refine doG_v (opV_move rfl) rfl rfl rfl ?_
  refine doG_v (opV_indexAddr ar28 rfl rfl (by first | decide | omega) (by first | decide | omega)) rfl rfl rfl ?_
  refine doG_v (opV_indexAddr ar26 rfl rfl (by first | decide | omega) (by first | decide | omega)) rfl rfl rfl ?_
  refine doG_v (opV_loadA 11 ty23 rfl rfl rfl) rfl rfl rfl ?_
  refine doG_vg (F := ivB) (opV_call en32 rfl (fun w _ => rMeet _ _ _ _  w)) rfl rfl rfl ?_; intro r58_8 hr58_8
  refine doG_v (opV_move rfl) rfl rfl rfl ?_
  refine doG_v (opV_extract rfl rfl) rfl rfl rfl ?_
  refine doG_v (opV_extract rfl rfl) rfl rfl rfl ?_
  refine doG_alloc ze23 rfl rfl rfl rfl ?_
  refine doG_nil ?_
  refine tail_alloc 14 rfl ?_; intro b14_16
  refine tail_nil ?_
  refine doL_store 14 ty23 rfl rfl rfl rfl rfl rfl rfl rfl ?_
  refine doL_v (opV_assign rfl) rfl rfl rfl ?_
  refine doL_nil ?_
  refine post_then ?_
  refine doC_seq ?_
  refine doC_region ?_
  refine doL_v (opV_move rfl) rfl rfl rfl ?_
  refine doL_v (opV_not rfl) rfl rfl rfl ?_
  refine doL_nil ?_
  refine post_then ?_
  refine doC_cond_f rfl (congrArg not ((congrArg Prod.snd hr58_8).trans ((meet_snd _ _).trans mm.z.y))) ?_
  refine doC_skip ?_
  refine post_block_normal ?_
  refine post_then ?_
  refine doC_region ?_
  refine doL_v (opV_move rfl) rfl rfl rfl ?_
  refine doL_v (opV_add rfl rfl (by first | exact i64_in ⟨by omega, by omega⟩ | rfl)) rfl rfl rfl ?_
  refine doL_v (opV_assign rfl) rfl rfl rfl ?_
  refine doL_nil ?_
  refine post_rounds ?_
  refine doR_succ ?_
  refine doC_seq ?_
  refine doC_seq ?_
  refine doC_region ?_
  refine doL_v (opV_move rfl) rfl rfl rfl ?_
  refine doL_v (opV_lss rfl rfl) rfl rfl rfl ?_
  refine doL_nil ?_
  refine post_then ?_
  refine doC_cond_t rfl (by decide) ?_
  refine doC_skip ?_
  refine post_then ?_
  refine doC_seq ?_
  refine doC_block ?_
  refine doC_seq ?_
  refine doC_keep (ks := [6, 7, 8, 9, 10, 11, 12, 13]) rfl ?_
  refine doC_keepH (ks := [10, 11]) rfl ?_
  refine doC_late 15 13 (by repeat (first | exact putP_body | refine putP_then ?_ | refine putP_block ?_)) mo (by kernel_rfl) ?_
  simp only [List.take_succ_cons, List.take_zero, List.drop_succ_cons, List.drop_zero]
  refine doG_v (opV_move rfl) rfl rfl rfl ?_
  refine doG_v (opV_move rfl) rfl rfl rfl ?_
  refine doG_v (opV_indexAddr ar28 rfl rfl (by first | decide | omega) (by first | decide | omega)) rfl rfl rfl ?_
  refine doG_v (opV_indexAddr ar26 rfl rfl (by first | decide | omega) (by first | decide | omega)) rfl rfl rfl ?_
  refine doG_v (opV_loadA 10 ty23 rfl rfl rfl) rfl rfl rfl ?_
  refine doG_v (opV_move rfl) rfl rfl rfl ?_
  refine doG_v (opV_move rfl) rfl rfl rfl ?_
  refine doG_v (opV_indexAddr ar28 rfl rfl (by first | decide | omega) (by first | decide | omega)) rfl rfl rfl ?_
  refine doG_v (opV_indexAddr ar26 rfl rfl (by first | decide | omega) (by first | decide | omega)) rfl rfl rfl ?_
  refine doG_v (opV_loadA 11 ty23 rfl rfl rfl) rfl rfl rfl ?_
  refine doG_vg (F := ivB) (opV_call en32 rfl (fun w _ => rMeet _ _ _ _  w)) rfl rfl rfl ?_; intro r58_9 hr58_9
  refine doG_v (opV_move rfl) rfl rfl rfl ?_
  refine doG_v (opV_extract rfl rfl) rfl rfl rfl ?_
  refine doG_v (opV_extract rfl rfl) rfl rfl rfl ?_
  refine doG_alloc ze23 rfl rfl rfl rfl ?_
  refine doG_nil ?_
  refine tail_alloc 14 rfl ?_; intro b14_18
  refine tail_nil ?_
  refine doL_store 14 ty23 rfl rfl rfl rfl rfl rfl rfl rfl ?_
  refine doL_v (opV_assign rfl) rfl rfl rfl ?_
  refine doL_nil ?_
  refine post_then ?_
  refine doC_seq ?_
  refine doC_region ?_
  refine doL_v (opV_move rfl) rfl rfl rfl ?_
  refine doL_v (opV_not rfl) rfl rfl rfl ?_
  refine doL_nil ?_
  refine post_then ?_
  refine doC_cond_f rfl (congrArg not ((congrArg Prod.snd hr58_9).trans ((meet_snd _ _).trans mm.z.z))) ?_
  refine doC_skip ?_
  refine post_block_normal ?_
  refine post_then ?_
  refine doC_region ?_
  refine doL_v (opV_move rfl) rfl rfl rfl ?_
  refine doL_v (opV_add rfl rfl (by first | exact i64_in ⟨by omega, by omega⟩ | rfl)) rfl rfl rfl ?_
  refine doL_v (opV_assign rfl) rfl rfl rfl ?_
  refine doL_nil ?_
  refine post_rounds ?_
  refine doR_succ ?_
  refine doC_seq ?_
  refine doC_seq ?_
  refine doC_region ?_
  refine doL_v (opV_move rfl) rfl rfl rfl ?_
  refine doL_v (opV_lss rfl rfl) rfl rfl rfl ?_
  refine doL_nil ?_
  refine post_then ?_
  refine doC_cond_f rfl (by decide) ?_
  refine doC_exit ?_
  refine post_then_exit ?_
  refine post_then_exit ?_
  refine post_block_exit ?_
  refine post_block_normal ?_
  refine post_then ?_
  refine doC_region ?_
  refine doL_v (opV_move rfl) rfl rfl rfl ?_
  refine doL_v (opV_add rfl rfl (by first | exact i64_in ⟨by omega, by omega⟩ | rfl)) rfl rfl rfl ?_
  refine doL_v (opV_assign rfl) rfl rfl rfl ?_
  refine doL_nil ?_
  refine post_rounds ?_
  refine doR_succ ?_
  refine doC_seq ?_
  refine doC_seq ?_
  refine doC_region ?_
  refine doL_v (opV_move rfl) rfl rfl rfl ?_
  refine doL_v (opV_lss rfl rfl) rfl rfl rfl ?_
  refine doL_nil ?_
  refine post_then ?_
  refine doC_cond_f rfl (by decide) ?_
  refine doC_exit ?_
  refine post_then_exit ?_
  refine post_then_exit ?_
  refine post_block_exit ?_
  refine post_then ?_
  refine doC_seq ?_
  refine doC_region ?_
  refine doL_vg (F := vB) (opV_call en23 rfl (fun w _ => awake4   w)) rfl rfl rfl ?_; intro r63 hr63
  refine doL_v (opV_assign rfl) rfl rfl rfl ?_
  refine doL_nil ?_
  refine post_then ?_
  refine doC_ret ?_
  refine post_rets (rs := [.tmp 6]) rfl (resC (resIs_tmp rfl) (resN)) (congrArg (vB) (?_ : _ = true))
  exact hr63

theorem ix3_0 {p0 p1 p2 p3 p4 p5 : Int} : ∀ w : World, (Instr.index 34 (.agg #[.int .i64 p0, .int .i64 p1, .int .i64 p2, .int .i64 p3, .int .i64 p4, .int .i64 p5]) (.int .i64 0)).run Try.prog w = .ok (.agg #[.int .i64 p0, .int .i64 p1]) w := fun w => by kernel_rfl

theorem ix3_1 {p0 p1 p2 p3 p4 p5 : Int} : ∀ w : World, (Instr.index 34 (.agg #[.int .i64 p0, .int .i64 p1, .int .i64 p2, .int .i64 p3, .int .i64 p4, .int .i64 p5]) (.int .i64 1)).run Try.prog w = .ok (.agg #[.int .i64 p2, .int .i64 p3]) w := fun w => by kernel_rfl

theorem ix3_2 {p0 p1 p2 p3 p4 p5 : Int} : ∀ w : World, (Instr.index 34 (.agg #[.int .i64 p0, .int .i64 p1, .int .i64 p2, .int .i64 p3, .int .i64 p4, .int .i64 p5]) (.int .i64 2)).run Try.prog w = .ok (.agg #[.int .i64 p4, .int .i64 p5]) w := fun w => by kernel_rfl

theorem wQuarters (axis : Int) (p0 p1 p2 : Int) (w : World) : Calls Try.prog 5 [.int .i64 axis, .agg #[.int .i64 p0, .int .i64 p1, .int .i64 p2]].toArray w (Rets (vB (true)) w) := by
  refine calls_of_doC (n := 54) Try.func5 rfl rfl rfl ?_
  refine doC_seq ?_
  refine doC_region ?_
  refine doL_box 3 rfl rfl rfl rfl ?_; intro b3
  refine doL_v (opV_assign rfl) rfl rfl rfl ?_
  refine doL_nil ?_
  refine post_then ?_
  refine doC_seq ?_
  refine doC_region ?_
  refine doL_v (opV_move rfl) rfl rfl rfl ?_
  refine doL_vg (F := vI) (opV_call en22 rfl (fun w _ => mRound _ _ (by first | omega | assumption | (unfold In64; omega) | decide) w)) rfl rfl rfl ?_; intro r10 hr10
  refine doL_v (opV_assign rfl) rfl rfl rfl ?_
  refine doL_nil ?_
  refine post_then ?_
  refine doC_seq ?_
  rcases (show r10 = 0 ∨ r10 = 1 ∨ r10 = 2 by omega) with rfl | rfl | rfl
  ·
    refine doC_region ?_
    refine doL_v (opV_move rfl) rfl rfl rfl ?_
    refine doL_vg (F := iv) (opV_call en31 rfl (fun w _ => rOf _  w)) rfl rfl rfl ?_; intro r12 hr12
    refine doL_vg (F := m3) (opV_call en24 rfl (fun w _ => mTurn _ _ _  w)) rfl rfl rfl ?_; intro r13 hr13
    refine doL_alloc 6 ze28 rfl rfl rfl ?_; intro b6
    refine doL_store 6 ty28 rfl rfl rfl rfl rfl rfl rfl rfl ?_
    refine doL_nil ?_
    refine post_then ?_
    refine doC_seq ?_
    refine doC_region ?_
    refine doL_v (opV_loadA 6 ty28 rfl rfl rfl) rfl rfl rfl ?_
    refine doL_v (opV_loadA 6 ty28 rfl rfl rfl) rfl rfl rfl ?_
    refine doL_vg (F := m3) (opV_call en34 rfl (fun w _ => mCompose _ _ _ _ _ _ _ _ _ _ _ _ _ _ _ _ _ _ _ _ _ _ _ _ _ _ _ _ _ _ _ _ _ _ _ _  w)) rfl rfl rfl ?_; intro r16 hr16
    refine doL_alloc 7 ze28 rfl rfl rfl ?_; intro b7
    refine doL_store 7 ty28 rfl rfl rfl rfl rfl rfl rfl rfl ?_
    refine doL_nil ?_
    refine post_then ?_
    refine doC_seq ?_
    refine doC_region ?_
    refine doL_v (opV_loadA 3 ty38 rfl rfl rfl) rfl rfl rfl ?_
    refine doL_vg (F := v3) (opV_call en35 rfl (fun w _ => mPoint _ _ _  w)) rfl rfl rfl ?_; intro r18 hr18
    refine doL_alloc 8 ze34 rfl rfl rfl ?_; intro b8
    refine doL_store 8 ty34 rfl rfl rfl rfl rfl rfl rfl rfl ?_
    refine doL_nil ?_
    refine post_then ?_
    refine doC_seq ?_
    refine doC_drawn 35 mo (by kernel_rfl) ?_
    simp only [List.take_succ_cons, List.take_zero, List.drop_succ_cons, List.drop_zero]
    refine doG_vg (F := vB) (opV_call en23 rfl (fun w _ => awake4   w)) rfl rfl rfl ?_; intro r19 hr19
    obtain rfl : r19 = true := hr19
    refine doG_v (opV_move rfl) rfl rfl rfl ?_
    refine doG_v (opV_loadA 7 ty28 rfl rfl rfl) rfl rfl rfl ?_
    refine doG_v (opV_loadA 7 ty28 rfl rfl rfl) rfl rfl rfl ?_
    refine doG_vg (F := m3) (opV_call en34 rfl (fun w _ => mCompose _ _ _ _ _ _ _ _ _ _ _ _ _ _ _ _ _ _ _ _ _ _ _ _ _ _ _ _ _ _ _ _ _ _ _ _  w)) rfl rfl rfl ?_; intro r23 hr23
    refine doG_vg (F := m3) (opV_call en36 rfl (fun w _ => rUnit   w)) rfl rfl rfl ?_; intro r24 hr24
    refine doG_vg (F := vB) (opV_eqA 4 rfl ag28 rfl rfl (ce28 _ _ _ _ _ _ _ _ _ _ _ _ _ _ _ _ _ _) (ce28 _ _ _ _ _ _ _ _ _ _ _ _ _ _ _ _ _ _)) rfl rfl rfl ?_; intro r25 hr25
    obtain rfl : r25 = true := hr25.trans (eq_m3 (by rw [hr23, hr16, hr13, hr12, hr24]; exact quarter4 (by first | exact .inl rfl | exact .inr (.inl rfl) | exact .inr (.inr rfl))))
    refine doG_v (opV_pick_t rfl rfl rfl rfl) rfl rfl rfl ?_
    refine doG_v (opV_move rfl) rfl rfl rfl ?_
    refine doG_v (opV_loadA 7 ty28 rfl rfl rfl) rfl rfl rfl ?_
    refine doG_v (opV_loadA 7 ty28 rfl rfl rfl) rfl rfl rfl ?_
    refine doG_v (opV_loadA 8 ty34 rfl rfl rfl) rfl rfl rfl ?_
    refine doG_vg (F := v3) (opV_call en29 rfl (fun w _ => mApply _ _ _ _ _ _ _ _ _ _ _ _ _ _ _ _ _ _ _ _ _ _ _ _  w)) rfl rfl rfl ?_; intro r31 hr31
    refine doG_vg (F := v3) (opV_call en29 rfl (fun w _ => mApply _ _ _ _ _ _ _ _ _ _ _ _ _ _ _ _ _ _ _ _ _ _ _ _  w)) rfl rfl rfl ?_; intro r32 hr32
    refine doG_v (opV_loadA 8 ty34 rfl rfl rfl) rfl rfl rfl ?_
    refine doG_vg (F := vB) (opV_eqA 4 rfl ag34 rfl rfl (ce34 _ _ _ _ _ _) (ce34 _ _ _ _ _ _)) rfl rfl rfl ?_; intro r34 hr34
    obtain rfl : r34 = true := hr34.trans (eq_v3 (by rw [hr32, hr31, hr16, hr13, hr12, hr18]; exact (congrArg (fun m => M3.apply m (M3.apply m _)) (quarter2 (by first | exact .inl rfl | exact .inr (.inl rfl) | exact .inr (.inr rfl)))).trans (half2 _ (by first | exact .inl rfl | exact .inr (.inl rfl) | exact .inr (.inr rfl)))))
    refine doG_v (opV_pick_t rfl rfl rfl rfl) rfl rfl rfl ?_
    refine doG_v (opV_move rfl) rfl rfl rfl ?_
    refine doG_v (opV_loadA 6 ty28 rfl rfl rfl) rfl rfl rfl ?_
    refine doG_v (opV_loadA 8 ty34 rfl rfl rfl) rfl rfl rfl ?_
    refine doG_vg (F := v3) (opV_call en29 rfl (fun w _ => mApply _ _ _ _ _ _ _ _ _ _ _ _ _ _ _ _ _ _ _ _ _ _ _ _  w)) rfl rfl rfl ?_; intro r39 hr39
    refine doG_v (opV_move rfl) rfl rfl rfl ?_
    refine doG_v (opV_index rfl rfl (ix3_0)) rfl rfl rfl ?_
    refine doG_v (opV_move rfl) rfl rfl rfl ?_
    refine doG_v (opV_indexAddr ar34 rfl rfl (by first | decide | omega) (by first | decide | omega)) rfl rfl rfl ?_
    refine doG_v (opV_loadA 8 ty23 rfl rfl rfl) rfl rfl rfl ?_
    refine doG_vg (F := vB) (opV_eqA 4 rfl ag23 rfl rfl (ce23 _ _) (ce23 _ _)) rfl rfl rfl ?_; intro r45 hr45
    obtain rfl : r45 = true := hr45.trans (eq_iv' (r := r39.x) (s := r18.x) (by rw [hr39, hr13, hr12, hr18]; exact axis_x _))
    refine doG_v (opV_pick_t rfl rfl rfl rfl) rfl rfl rfl ?_
    refine doG_v (opV_move rfl) rfl rfl rfl ?_
    refine doG_v (opV_loadA 7 ty28 rfl rfl rfl) rfl rfl rfl ?_
    refine doG_v (opV_move rfl) rfl rfl rfl ?_
    refine doG_vg (F := iv) (opV_call en31 rfl (fun w _ => rOf _  w)) rfl rfl rfl ?_; intro r50 hr50
    refine doG_vg (F := m3) (opV_call en24 rfl (fun w _ => mTurn _ _ _  w)) rfl rfl rfl ?_; intro r51 hr51
    refine doG_v (opV_eqA 4 rfl ag28 rfl rfl (ce28 _ _ _ _ _ _ _ _ _ _ _ _ _ _ _ _ _ _) (ce28 _ _ _ _ _ _ _ _ _ _ _ _ _ _ _ _ _ _)) rfl rfl rfl ?_
    refine doG_v (opV_pick_t rfl rfl rfl rfl) rfl rfl rfl ?_
    refine doG_nil ?_
    refine tail_nil ?_
    refine doL_v (opV_assign rfl) rfl rfl rfl ?_
    refine doL_nil ?_
    refine post_then ?_
    refine doC_ret ?_
    refine post_rets (rs := [.tmp 4]) rfl (resC (resIs_tmp rfl) (resN)) (congrArg (vB) (?_ : _ = true))
    exact eq_m3 (by rw [hr16, hr13, hr12, hr51, hr50]; exact quarter2 (by first | exact .inl rfl | exact .inr (.inl rfl) | exact .inr (.inr rfl)))
  ·
    refine doC_region ?_
    refine doL_v (opV_move rfl) rfl rfl rfl ?_
    refine doL_vg (F := iv) (opV_call en31 rfl (fun w _ => rOf _  w)) rfl rfl rfl ?_; intro r12 hr12
    refine doL_vg (F := m3) (opV_call en24 rfl (fun w _ => mTurn _ _ _  w)) rfl rfl rfl ?_; intro r13 hr13
    refine doL_alloc 6 ze28 rfl rfl rfl ?_; intro b6
    refine doL_store 6 ty28 rfl rfl rfl rfl rfl rfl rfl rfl ?_
    refine doL_nil ?_
    refine post_then ?_
    refine doC_seq ?_
    refine doC_region ?_
    refine doL_v (opV_loadA 6 ty28 rfl rfl rfl) rfl rfl rfl ?_
    refine doL_v (opV_loadA 6 ty28 rfl rfl rfl) rfl rfl rfl ?_
    refine doL_vg (F := m3) (opV_call en34 rfl (fun w _ => mCompose _ _ _ _ _ _ _ _ _ _ _ _ _ _ _ _ _ _ _ _ _ _ _ _ _ _ _ _ _ _ _ _ _ _ _ _  w)) rfl rfl rfl ?_; intro r16 hr16
    refine doL_alloc 7 ze28 rfl rfl rfl ?_; intro b7
    refine doL_store 7 ty28 rfl rfl rfl rfl rfl rfl rfl rfl ?_
    refine doL_nil ?_
    refine post_then ?_
    refine doC_seq ?_
    refine doC_region ?_
    refine doL_v (opV_loadA 3 ty38 rfl rfl rfl) rfl rfl rfl ?_
    refine doL_vg (F := v3) (opV_call en35 rfl (fun w _ => mPoint _ _ _  w)) rfl rfl rfl ?_; intro r18 hr18
    refine doL_alloc 8 ze34 rfl rfl rfl ?_; intro b8
    refine doL_store 8 ty34 rfl rfl rfl rfl rfl rfl rfl rfl ?_
    refine doL_nil ?_
    refine post_then ?_
    refine doC_seq ?_
    refine doC_drawn 35 mo (by kernel_rfl) ?_
    simp only [List.take_succ_cons, List.take_zero, List.drop_succ_cons, List.drop_zero]
    refine doG_vg (F := vB) (opV_call en23 rfl (fun w _ => awake4   w)) rfl rfl rfl ?_; intro r19 hr19
    obtain rfl : r19 = true := hr19
    refine doG_v (opV_move rfl) rfl rfl rfl ?_
    refine doG_v (opV_loadA 7 ty28 rfl rfl rfl) rfl rfl rfl ?_
    refine doG_v (opV_loadA 7 ty28 rfl rfl rfl) rfl rfl rfl ?_
    refine doG_vg (F := m3) (opV_call en34 rfl (fun w _ => mCompose _ _ _ _ _ _ _ _ _ _ _ _ _ _ _ _ _ _ _ _ _ _ _ _ _ _ _ _ _ _ _ _ _ _ _ _  w)) rfl rfl rfl ?_; intro r23 hr23
    refine doG_vg (F := m3) (opV_call en36 rfl (fun w _ => rUnit   w)) rfl rfl rfl ?_; intro r24 hr24
    refine doG_vg (F := vB) (opV_eqA 4 rfl ag28 rfl rfl (ce28 _ _ _ _ _ _ _ _ _ _ _ _ _ _ _ _ _ _) (ce28 _ _ _ _ _ _ _ _ _ _ _ _ _ _ _ _ _ _)) rfl rfl rfl ?_; intro r25 hr25
    obtain rfl : r25 = true := hr25.trans (eq_m3 (by rw [hr23, hr16, hr13, hr12, hr24]; exact quarter4 (by first | exact .inl rfl | exact .inr (.inl rfl) | exact .inr (.inr rfl))))
    refine doG_v (opV_pick_t rfl rfl rfl rfl) rfl rfl rfl ?_
    refine doG_v (opV_move rfl) rfl rfl rfl ?_
    refine doG_v (opV_loadA 7 ty28 rfl rfl rfl) rfl rfl rfl ?_
    refine doG_v (opV_loadA 7 ty28 rfl rfl rfl) rfl rfl rfl ?_
    refine doG_v (opV_loadA 8 ty34 rfl rfl rfl) rfl rfl rfl ?_
    refine doG_vg (F := v3) (opV_call en29 rfl (fun w _ => mApply _ _ _ _ _ _ _ _ _ _ _ _ _ _ _ _ _ _ _ _ _ _ _ _  w)) rfl rfl rfl ?_; intro r31 hr31
    refine doG_vg (F := v3) (opV_call en29 rfl (fun w _ => mApply _ _ _ _ _ _ _ _ _ _ _ _ _ _ _ _ _ _ _ _ _ _ _ _  w)) rfl rfl rfl ?_; intro r32 hr32
    refine doG_v (opV_loadA 8 ty34 rfl rfl rfl) rfl rfl rfl ?_
    refine doG_vg (F := vB) (opV_eqA 4 rfl ag34 rfl rfl (ce34 _ _ _ _ _ _) (ce34 _ _ _ _ _ _)) rfl rfl rfl ?_; intro r34 hr34
    obtain rfl : r34 = true := hr34.trans (eq_v3 (by rw [hr32, hr31, hr16, hr13, hr12, hr18]; exact (congrArg (fun m => M3.apply m (M3.apply m _)) (quarter2 (by first | exact .inl rfl | exact .inr (.inl rfl) | exact .inr (.inr rfl)))).trans (half2 _ (by first | exact .inl rfl | exact .inr (.inl rfl) | exact .inr (.inr rfl)))))
    refine doG_v (opV_pick_t rfl rfl rfl rfl) rfl rfl rfl ?_
    refine doG_v (opV_move rfl) rfl rfl rfl ?_
    refine doG_v (opV_loadA 6 ty28 rfl rfl rfl) rfl rfl rfl ?_
    refine doG_v (opV_loadA 8 ty34 rfl rfl rfl) rfl rfl rfl ?_
    refine doG_vg (F := v3) (opV_call en29 rfl (fun w _ => mApply _ _ _ _ _ _ _ _ _ _ _ _ _ _ _ _ _ _ _ _ _ _ _ _  w)) rfl rfl rfl ?_; intro r39 hr39
    refine doG_v (opV_move rfl) rfl rfl rfl ?_
    refine doG_v (opV_index rfl rfl (ix3_1)) rfl rfl rfl ?_
    refine doG_v (opV_move rfl) rfl rfl rfl ?_
    refine doG_v (opV_indexAddr ar34 rfl rfl (by first | decide | omega) (by first | decide | omega)) rfl rfl rfl ?_
    refine doG_v (opV_loadA 8 ty23 rfl rfl rfl) rfl rfl rfl ?_
    refine doG_vg (F := vB) (opV_eqA 4 rfl ag23 rfl rfl (ce23 _ _) (ce23 _ _)) rfl rfl rfl ?_; intro r45 hr45
    obtain rfl : r45 = true := hr45.trans (eq_iv' (r := r39.y) (s := r18.y) (by rw [hr39, hr13, hr12, hr18]; exact axis_y _))
    refine doG_v (opV_pick_t rfl rfl rfl rfl) rfl rfl rfl ?_
    refine doG_v (opV_move rfl) rfl rfl rfl ?_
    refine doG_v (opV_loadA 7 ty28 rfl rfl rfl) rfl rfl rfl ?_
    refine doG_v (opV_move rfl) rfl rfl rfl ?_
    refine doG_vg (F := iv) (opV_call en31 rfl (fun w _ => rOf _  w)) rfl rfl rfl ?_; intro r50 hr50
    refine doG_vg (F := m3) (opV_call en24 rfl (fun w _ => mTurn _ _ _  w)) rfl rfl rfl ?_; intro r51 hr51
    refine doG_v (opV_eqA 4 rfl ag28 rfl rfl (ce28 _ _ _ _ _ _ _ _ _ _ _ _ _ _ _ _ _ _) (ce28 _ _ _ _ _ _ _ _ _ _ _ _ _ _ _ _ _ _)) rfl rfl rfl ?_
    refine doG_v (opV_pick_t rfl rfl rfl rfl) rfl rfl rfl ?_
    refine doG_nil ?_
    refine tail_nil ?_
    refine doL_v (opV_assign rfl) rfl rfl rfl ?_
    refine doL_nil ?_
    refine post_then ?_
    refine doC_ret ?_
    refine post_rets (rs := [.tmp 4]) rfl (resC (resIs_tmp rfl) (resN)) (congrArg (vB) (?_ : _ = true))
    exact eq_m3 (by rw [hr16, hr13, hr12, hr51, hr50]; exact quarter2 (by first | exact .inl rfl | exact .inr (.inl rfl) | exact .inr (.inr rfl)))
  ·
    refine doC_region ?_
    refine doL_v (opV_move rfl) rfl rfl rfl ?_
    refine doL_vg (F := iv) (opV_call en31 rfl (fun w _ => rOf _  w)) rfl rfl rfl ?_; intro r12 hr12
    refine doL_vg (F := m3) (opV_call en24 rfl (fun w _ => mTurn _ _ _  w)) rfl rfl rfl ?_; intro r13 hr13
    refine doL_alloc 6 ze28 rfl rfl rfl ?_; intro b6
    refine doL_store 6 ty28 rfl rfl rfl rfl rfl rfl rfl rfl ?_
    refine doL_nil ?_
    refine post_then ?_
    refine doC_seq ?_
    refine doC_region ?_
    refine doL_v (opV_loadA 6 ty28 rfl rfl rfl) rfl rfl rfl ?_
    refine doL_v (opV_loadA 6 ty28 rfl rfl rfl) rfl rfl rfl ?_
    refine doL_vg (F := m3) (opV_call en34 rfl (fun w _ => mCompose _ _ _ _ _ _ _ _ _ _ _ _ _ _ _ _ _ _ _ _ _ _ _ _ _ _ _ _ _ _ _ _ _ _ _ _  w)) rfl rfl rfl ?_; intro r16 hr16
    refine doL_alloc 7 ze28 rfl rfl rfl ?_; intro b7
    refine doL_store 7 ty28 rfl rfl rfl rfl rfl rfl rfl rfl ?_
    refine doL_nil ?_
    refine post_then ?_
    refine doC_seq ?_
    refine doC_region ?_
    refine doL_v (opV_loadA 3 ty38 rfl rfl rfl) rfl rfl rfl ?_
    refine doL_vg (F := v3) (opV_call en35 rfl (fun w _ => mPoint _ _ _  w)) rfl rfl rfl ?_; intro r18 hr18
    refine doL_alloc 8 ze34 rfl rfl rfl ?_; intro b8
    refine doL_store 8 ty34 rfl rfl rfl rfl rfl rfl rfl rfl ?_
    refine doL_nil ?_
    refine post_then ?_
    refine doC_seq ?_
    refine doC_drawn 35 mo (by kernel_rfl) ?_
    simp only [List.take_succ_cons, List.take_zero, List.drop_succ_cons, List.drop_zero]
    refine doG_vg (F := vB) (opV_call en23 rfl (fun w _ => awake4   w)) rfl rfl rfl ?_; intro r19 hr19
    obtain rfl : r19 = true := hr19
    refine doG_v (opV_move rfl) rfl rfl rfl ?_
    refine doG_v (opV_loadA 7 ty28 rfl rfl rfl) rfl rfl rfl ?_
    refine doG_v (opV_loadA 7 ty28 rfl rfl rfl) rfl rfl rfl ?_
    refine doG_vg (F := m3) (opV_call en34 rfl (fun w _ => mCompose _ _ _ _ _ _ _ _ _ _ _ _ _ _ _ _ _ _ _ _ _ _ _ _ _ _ _ _ _ _ _ _ _ _ _ _  w)) rfl rfl rfl ?_; intro r23 hr23
    refine doG_vg (F := m3) (opV_call en36 rfl (fun w _ => rUnit   w)) rfl rfl rfl ?_; intro r24 hr24
    refine doG_vg (F := vB) (opV_eqA 4 rfl ag28 rfl rfl (ce28 _ _ _ _ _ _ _ _ _ _ _ _ _ _ _ _ _ _) (ce28 _ _ _ _ _ _ _ _ _ _ _ _ _ _ _ _ _ _)) rfl rfl rfl ?_; intro r25 hr25
    obtain rfl : r25 = true := hr25.trans (eq_m3 (by rw [hr23, hr16, hr13, hr12, hr24]; exact quarter4 (by first | exact .inl rfl | exact .inr (.inl rfl) | exact .inr (.inr rfl))))
    refine doG_v (opV_pick_t rfl rfl rfl rfl) rfl rfl rfl ?_
    refine doG_v (opV_move rfl) rfl rfl rfl ?_
    refine doG_v (opV_loadA 7 ty28 rfl rfl rfl) rfl rfl rfl ?_
    refine doG_v (opV_loadA 7 ty28 rfl rfl rfl) rfl rfl rfl ?_
    refine doG_v (opV_loadA 8 ty34 rfl rfl rfl) rfl rfl rfl ?_
    refine doG_vg (F := v3) (opV_call en29 rfl (fun w _ => mApply _ _ _ _ _ _ _ _ _ _ _ _ _ _ _ _ _ _ _ _ _ _ _ _  w)) rfl rfl rfl ?_; intro r31 hr31
    refine doG_vg (F := v3) (opV_call en29 rfl (fun w _ => mApply _ _ _ _ _ _ _ _ _ _ _ _ _ _ _ _ _ _ _ _ _ _ _ _  w)) rfl rfl rfl ?_; intro r32 hr32
    refine doG_v (opV_loadA 8 ty34 rfl rfl rfl) rfl rfl rfl ?_
    refine doG_vg (F := vB) (opV_eqA 4 rfl ag34 rfl rfl (ce34 _ _ _ _ _ _) (ce34 _ _ _ _ _ _)) rfl rfl rfl ?_; intro r34 hr34
    obtain rfl : r34 = true := hr34.trans (eq_v3 (by rw [hr32, hr31, hr16, hr13, hr12, hr18]; exact (congrArg (fun m => M3.apply m (M3.apply m _)) (quarter2 (by first | exact .inl rfl | exact .inr (.inl rfl) | exact .inr (.inr rfl)))).trans (half2 _ (by first | exact .inl rfl | exact .inr (.inl rfl) | exact .inr (.inr rfl)))))
    refine doG_v (opV_pick_t rfl rfl rfl rfl) rfl rfl rfl ?_
    refine doG_v (opV_move rfl) rfl rfl rfl ?_
    refine doG_v (opV_loadA 6 ty28 rfl rfl rfl) rfl rfl rfl ?_
    refine doG_v (opV_loadA 8 ty34 rfl rfl rfl) rfl rfl rfl ?_
    refine doG_vg (F := v3) (opV_call en29 rfl (fun w _ => mApply _ _ _ _ _ _ _ _ _ _ _ _ _ _ _ _ _ _ _ _ _ _ _ _  w)) rfl rfl rfl ?_; intro r39 hr39
    refine doG_v (opV_move rfl) rfl rfl rfl ?_
    refine doG_v (opV_index rfl rfl (ix3_2)) rfl rfl rfl ?_
    refine doG_v (opV_move rfl) rfl rfl rfl ?_
    refine doG_v (opV_indexAddr ar34 rfl rfl (by first | decide | omega) (by first | decide | omega)) rfl rfl rfl ?_
    refine doG_v (opV_loadA 8 ty23 rfl rfl rfl) rfl rfl rfl ?_
    refine doG_vg (F := vB) (opV_eqA 4 rfl ag23 rfl rfl (ce23 _ _) (ce23 _ _)) rfl rfl rfl ?_; intro r45 hr45
    obtain rfl : r45 = true := hr45.trans (eq_iv' (r := r39.z) (s := r18.z) (by rw [hr39, hr13, hr12, hr18]; exact axis_z _))
    refine doG_v (opV_pick_t rfl rfl rfl rfl) rfl rfl rfl ?_
    refine doG_v (opV_move rfl) rfl rfl rfl ?_
    refine doG_v (opV_loadA 7 ty28 rfl rfl rfl) rfl rfl rfl ?_
    refine doG_v (opV_move rfl) rfl rfl rfl ?_
    refine doG_vg (F := iv) (opV_call en31 rfl (fun w _ => rOf _  w)) rfl rfl rfl ?_; intro r50 hr50
    refine doG_vg (F := m3) (opV_call en24 rfl (fun w _ => mTurn _ _ _  w)) rfl rfl rfl ?_; intro r51 hr51
    refine doG_v (opV_eqA 4 rfl ag28 rfl rfl (ce28 _ _ _ _ _ _ _ _ _ _ _ _ _ _ _ _ _ _) (ce28 _ _ _ _ _ _ _ _ _ _ _ _ _ _ _ _ _ _)) rfl rfl rfl ?_
    refine doG_v (opV_pick_t rfl rfl rfl rfl) rfl rfl rfl ?_
    refine doG_nil ?_
    refine tail_nil ?_
    refine doL_v (opV_assign rfl) rfl rfl rfl ?_
    refine doL_nil ?_
    refine post_then ?_
    refine doC_ret ?_
    refine post_rets (rs := [.tmp 4]) rfl (resC (resIs_tmp rfl) (resN)) (congrArg (vB) (?_ : _ = true))
    exact eq_m3 (by rw [hr16, hr13, hr12, hr51, hr50]; exact quarter2 (by first | exact .inl rfl | exact .inr (.inl rfl) | exact .inr (.inr rfl)))

end Go.Proofs.Ytonampcmhhhffaa

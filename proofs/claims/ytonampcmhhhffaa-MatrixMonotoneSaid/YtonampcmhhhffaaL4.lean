/- The walks of the laws of chapter 4. No condition. -/
import Derived.Test.YtonampcmhhhffaaProg
import Derived.Test.YtonampcmhhhffaaMatLaw
import Derived.Test.YtonampcmhhhffaaA1
import Derived.Test.YtonampcmhhhffaaA2
import Derived.Test.YtonampcmhhhffaaM1
namespace Go.Proofs.Ytonampcmhhhffaa
open Go.Sx
theorem en24 : Enters Try.prog 24 := enters_of Try.func24 (by kernel_rfl) (by kernel_rfl)
theorem la38 : layoutOf Try.prog 38 = some ([.int .i64 0, .int .i64 0, .int .i64 0], [(0, 1), (1, 1), (2, 1)]) := by kernel_rfl
theorem en35 : Enters Try.prog 35 := enters_of Try.func35 (by kernel_rfl) (by kernel_rfl)
theorem en29 : Enters Try.prog 29 := enters_of Try.func29 (by kernel_rfl) (by kernel_rfl)
theorem en27 : Enters Try.prog 27 := enters_of Try.func27 (by kernel_rfl) (by kernel_rfl)
theorem ag34 : aggB Try.prog 34 = true := by kernel_rfl
theorem ce34 (a0 a1 a2 a3 a4 a5 : Int) : cellsB Try.prog 4 34 [.int .i64 a0, .int .i64 a1, .int .i64 a2, .int .i64 a3, .int .i64 a4, .int .i64 a5] = true := by kernel_rfl
theorem en22 : Enters Try.prog 22 := enters_of Try.func22 (by kernel_rfl) (by kernel_rfl)
theorem en23 : Enters Try.prog 23 := enters_of Try.func23 (by kernel_rfl) (by kernel_rfl)
theorem en25 : Enters Try.prog 25 := enters_of Try.func25 (by kernel_rfl) (by kernel_rfl)
theorem ag28 : aggB Try.prog 28 = true := by kernel_rfl
theorem ce28 (a0 a1 a2 a3 a4 a5 a6 a7 a8 a9 a10 a11 a12 a13 a14 a15 a16 a17 : Int) : cellsB Try.prog 4 28 [.int .i64 a0, .int .i64 a1, .int .i64 a2, .int .i64 a3, .int .i64 a4, .int .i64 a5, .int .i64 a6, .int .i64 a7, .int .i64 a8, .int .i64 a9, .int .i64 a10, .int .i64 a11, .int .i64 a12, .int .i64 a13, .int .i64 a14, .int .i64 a15, .int .i64 a16, .int .i64 a17] = true := by kernel_rfl

theorem awake4  (w : World) : Calls Try.prog 23 [].toArray w (Rets (vB (true)) w) := by
  refine calls_of_doC (n := 16) Try.func23 rfl rfl rfl ?_
  refine doC_seq ?_
  refine doC_region ?_
  refine doL_v (opV_assign rfl) rfl rfl rfl ?_
  refine doL_nil ?_
  refine post_then ?_
  refine doC_seq ?_
  refine doC_region ?_
  refine doL_vg (F := iv) (opV_call en31 rfl (fun w _ => rOf _  w)) rfl rfl rfl ?_; intro r2 hr2
  refine doL_vg (F := m3) (opV_call en24 rfl (fun w _ => mTurn _ _ _  w)) rfl rfl rfl ?_; intro r3 hr3
  refine doL_v (opV_build la38 rfl rfl) rfl rfl rfl ?_
  refine doL_vg (F := v3) (opV_call en35 rfl (fun w _ => mPoint _ _ _  w)) rfl rfl rfl ?_; intro r5 hr5
  refine doL_vg (F := v3) (opV_call en29 rfl (fun w _ => mApply _ _ _ _ _ _ _ _ _ _ _ _ _ _ _ _ _ _ _ _ _ _ _ _  w)) rfl rfl rfl ?_; intro r6 hr6
  refine doL_alloc 1 ze34 rfl rfl rfl ?_; intro b1
  refine doL_store 1 ty34 rfl rfl rfl rfl rfl rfl rfl rfl ?_
  refine doL_nil ?_
  refine post_then ?_
  refine doC_seq ?_
  refine doC_drawn 9 mo (by kernel_rfl) ?_
  simp only [List.take_succ_cons, List.take_zero, List.drop_succ_cons, List.drop_zero]
  refine doG_v (opV_loadA 1 ty34 rfl rfl rfl) rfl rfl rfl ?_
  refine doG_v (opV_build la38 rfl rfl) rfl rfl rfl ?_
  refine doG_vg (F := v3) (opV_call en27 rfl (fun w _ => rPoint _ _ _  w)) rfl rfl rfl ?_; intro r9 hr9
  refine doG_vg (F := vB) (opV_eqA 4 rfl ag34 rfl rfl (ce34 _ _ _ _ _ _) (ce34 _ _ _ _ _ _)) rfl rfl rfl ?_; intro r10 hr10
  obtain rfl : r10 = true := hr10.trans (eq_v3 (by rw [hr6, hr3, hr5, hr2, hr9]; exact awake4_val))
  refine doG_v (opV_move rfl) rfl rfl rfl ?_
  refine doG_v (opV_loadA 1 ty34 rfl rfl rfl) rfl rfl rfl ?_
  refine doG_v (opV_loadA 1 ty34 rfl rfl rfl) rfl rfl rfl ?_
  refine doG_vg (F := vB) (opV_call en46 rfl (fun w _ => mWithin _ _ _ _ _ _ _ _ _ _ _ _  w)) rfl rfl rfl ?_; intro r14 hr14
  refine doG_v (opV_pick_t rfl rfl rfl rfl) rfl rfl rfl ?_
  refine doG_nil ?_
  refine tail_nil ?_
  refine doL_v (opV_assign rfl) rfl rfl rfl ?_
  refine doL_nil ?_
  refine post_then ?_
  refine doC_ret ?_
  refine post_rets (rs := [.tmp 0]) rfl (resC (resIs_tmp rfl) (resN)) (congrArg (vB) (?_ : _ = true))
  rw [hr14, hr6, hr3, hr5, hr2]; exact awake4_in

theorem wTurns (axis : Int) (a0 a1 : Int) (x : Int) (width : Int) (w : World) : Calls Try.prog 3 [.int .i64 axis, .agg #[.int .i64 a0, .int .i64 a1], .int .i64 x, .int .i64 width].toArray w (Rets (vB (true)) w) := by
  refine calls_of_doC (n := 51) Try.func3 rfl rfl rfl ?_
  refine doC_seq ?_
  refine doC_region ?_
  refine doL_box 5 rfl rfl rfl rfl ?_; intro b5
  refine doL_v (opV_assign rfl) rfl rfl rfl ?_
  refine doL_nil ?_
  refine post_then ?_
  refine doC_seq ?_
  refine doC_region ?_
  refine doL_v (opV_move rfl) rfl rfl rfl ?_
  refine doL_vg (F := vI) (opV_call en22 rfl (fun w _ => mRound _ _ (by first | omega | assumption | (unfold In64; omega) | decide) w)) rfl rfl rfl ?_; intro r12 hr12
  refine doL_v (opV_sub rfl rfl (by first | exact i64_in ⟨by omega, by omega⟩ | rfl)) rfl rfl rfl ?_
  refine doL_v (opV_build la23 rfl rfl) rfl rfl rfl ?_
  refine doL_alloc 9 ze23 rfl rfl rfl ?_; intro b9
  refine doL_store 9 ty23 rfl rfl rfl rfl rfl rfl rfl rfl ?_
  refine doL_nil ?_
  refine post_then ?_
  refine doC_seq ?_
  refine doC_drawn 6 mo (by kernel_rfl) ?_
  simp only [List.take_succ_cons, List.take_zero, List.drop_succ_cons, List.drop_zero]
  refine doG_v (opV_fieldAddr fa23_0 rfl) rfl rfl rfl ?_
  refine doG_v (opV_load1 9 ty2 rfl rfl rfl) rfl rfl rfl ?_
  refine doG_v (opV_move rfl) rfl rfl rfl ?_
  refine doG_vg (F := vI) (opV_call en22 rfl (fun w _ => mRound _ _ (by first | omega | assumption | (unfold In64; omega) | decide) w)) rfl rfl rfl ?_; intro r18 hr18
  refine doG_v (opV_add rfl rfl (by first | exact i64_in ⟨by omega, by omega⟩ | rfl)) rfl rfl rfl ?_
  refine doG_v (opV_fieldAddr fa23_1 rfl) rfl rfl rfl ?_
  refine doG_nil ?_
  refine tail_nil ?_
  refine doL_store 9 ty2 rfl rfl rfl rfl rfl rfl rfl rfl ?_
  refine doL_nil ?_
  refine post_then ?_
  refine doC_seq ?_
  refine doC_region ?_
  refine doL_v (opV_move rfl) rfl rfl rfl ?_
  refine doL_vg (F := vI) (opV_call en22 rfl (fun w _ => mRound _ _ (by first | omega | assumption | (unfold In64; omega) | decide) w)) rfl rfl rfl ?_; intro r22 hr22
  refine doL_v (opV_assign rfl) rfl rfl rfl ?_
  refine doL_nil ?_
  refine post_then ?_
  refine doC_seq ?_
  refine doC_drawn 28 mo (by kernel_rfl) ?_
  simp only [List.take_succ_cons, List.take_zero, List.drop_succ_cons, List.drop_zero]
  refine doG_vg (F := vB) (opV_call en23 rfl (fun w _ => awake4   w)) rfl rfl rfl ?_; intro r23 hr23
  obtain rfl : r23 = true := hr23
  refine doG_v (opV_move rfl) rfl rfl rfl ?_
  refine doG_v (opV_move rfl) rfl rfl rfl ?_
  refine doG_v (opV_loadA 5 ty23 rfl rfl rfl) rfl rfl rfl ?_
  refine doG_vg (F := m3) (opV_call en24 rfl (fun w _ => mTurn _ _ _  w)) rfl rfl rfl ?_; intro r27 hr27
  refine doG_v (opV_move rfl) rfl rfl rfl ?_
  refine doG_v (opV_loadA 5 ty23 rfl rfl rfl) rfl rfl rfl ?_
  refine doG_vg (F := m3) (opV_call en25 rfl (fun w _ => rTurn _ _ _  w)) rfl rfl rfl ?_; intro r30 hr30
  refine doG_vg (F := vB) (opV_eqA 4 rfl ag28 rfl rfl (ce28 _ _ _ _ _ _ _ _ _ _ _ _ _ _ _ _ _ _) (ce28 _ _ _ _ _ _ _ _ _ _ _ _ _ _ _ _ _ _)) rfl rfl rfl ?_; intro r31 hr31
  obtain rfl : r31 = true := hr31.trans (eq_m3 (hr27.trans hr30.symm))
  refine doG_v (opV_pick_t rfl rfl rfl rfl) rfl rfl rfl ?_
  refine doG_v (opV_move rfl) rfl rfl rfl ?_
  refine doG_v (opV_move rfl) rfl rfl rfl ?_
  refine doG_v (opV_loadA 5 ty23 rfl rfl rfl) rfl rfl rfl ?_
  refine doG_vg (F := m3) (opV_call en24 rfl (fun w _ => mTurn _ _ _  w)) rfl rfl rfl ?_; intro r36 hr36
  refine doG_v (opV_move rfl) rfl rfl rfl ?_
  refine doG_v (opV_loadA 5 ty23 rfl rfl rfl) rfl rfl rfl ?_
  refine doG_vg (F := m3) (opV_call en25 rfl (fun w _ => rTurn _ _ _  w)) rfl rfl rfl ?_; intro r39 hr39
  refine doG_vg (F := vB) (opV_eqA 4 rfl ag28 rfl rfl (ce28 _ _ _ _ _ _ _ _ _ _ _ _ _ _ _ _ _ _) (ce28 _ _ _ _ _ _ _ _ _ _ _ _ _ _ _ _ _ _)) rfl rfl rfl ?_; intro r40 hr40
  obtain rfl : r40 = true := hr40.trans (eq_m3 (hr36.trans hr39.symm))
  refine doG_v (opV_pick_t rfl rfl rfl rfl) rfl rfl rfl ?_
  refine doG_v (opV_move rfl) rfl rfl rfl ?_
  refine doG_v (opV_move rfl) rfl rfl rfl ?_
  refine doG_v (opV_loadA 9 ty23 rfl rfl rfl) rfl rfl rfl ?_
  refine doG_vg (F := m3) (opV_call en24 rfl (fun w _ => mTurn _ _ _  w)) rfl rfl rfl ?_; intro r45 hr45
  refine doG_v (opV_move rfl) rfl rfl rfl ?_
  refine doG_v (opV_loadA 9 ty23 rfl rfl rfl) rfl rfl rfl ?_
  refine doG_vg (F := m3) (opV_call en25 rfl (fun w _ => rTurn _ _ _  w)) rfl rfl rfl ?_; intro r48 hr48
  refine doG_v (opV_eqA 4 rfl ag28 rfl rfl (ce28 _ _ _ _ _ _ _ _ _ _ _ _ _ _ _ _ _ _) (ce28 _ _ _ _ _ _ _ _ _ _ _ _ _ _ _ _ _ _)) rfl rfl rfl ?_
  refine doG_v (opV_pick_t rfl rfl rfl rfl) rfl rfl rfl ?_
  refine doG_nil ?_
  refine tail_nil ?_
  refine doL_v (opV_assign rfl) rfl rfl rfl ?_
  refine doL_nil ?_
  refine post_then ?_
  refine doC_ret ?_
  refine post_rets (rs := [.tmp 8]) rfl (resC (resIs_tmp rfl) (resN)) (congrArg (vB) (?_ : _ = true))
  exact eq_m3 (hr45.trans hr48.symm)

end Go.Proofs.Ytonampcmhhhffaa

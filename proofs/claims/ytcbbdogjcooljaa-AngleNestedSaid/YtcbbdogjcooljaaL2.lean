/- The walks of the laws of chapter 3, second part. No condition. -/
import Derived.Test.YtcbbdogjcooljaaProg
import Derived.Test.YtcbbdogjcooljaaSxIdx
import Derived.Test.YtcbbdogjcooljaaAngLaw3
import Derived.Test.YtcbbdogjcooljaaA1
import Derived.Test.YtcbbdogjcooljaaA2
import Derived.Test.YtcbbdogjcooljaaL1
namespace Go.Proofs.Ytcbbdogjcooljaa
open Go.Sx
theorem en20 : Enters Try.prog 20 := enters_of Try.func20 (by kernel_rfl) (by kernel_rfl)
theorem en19 : Enters Try.prog 19 := enters_of Try.func19 (by kernel_rfl) (by kernel_rfl)
theorem en21 : Enters Try.prog 21 := enters_of Try.func21 (by kernel_rfl) (by kernel_rfl)
theorem en22 : Enters Try.prog 22 := enters_of Try.func22 (by kernel_rfl) (by kernel_rfl)
theorem la47 : layoutOf Try.prog 47 = some ([.int .i64 0, .int .i64 0, .int .i64 0, .int .i64 0, .int .i64 0, .int .i64 0, .int .i64 0, .int .i64 0], [(0, 1), (1, 1), (2, 1), (3, 1), (4, 1), (5, 1), (6, 1), (7, 1)]) := by kernel_rfl
theorem en26 : Enters Try.prog 26 := enters_of Try.func26 (by kernel_rfl) (by kernel_rfl)
theorem en27 : Enters Try.prog 27 := enters_of Try.func27 (by kernel_rfl) (by kernel_rfl)
theorem en28 : Enters Try.prog 28 := enters_of Try.func28 (by kernel_rfl) (by kernel_rfl)
theorem en29 : Enters Try.prog 29 := enters_of Try.func29 (by kernel_rfl) (by kernel_rfl)
theorem en30 : Enters Try.prog 30 := enters_of Try.func30 (by kernel_rfl) (by kernel_rfl)
theorem en31 : Enters Try.prog 31 := enters_of Try.func31 (by kernel_rfl) (by kernel_rfl)

theorem wSymmetry (x : Int) (w : World) : Calls Try.prog 5 [.int .i64 x].toArray w (Rets (vB (true)) w) := by
  refine calls_of_doC (n := 66) Try.func5 rfl rfl rfl ?_
  refine doC_seq ?_
  refine doC_region ?_
  refine doL_v (opV_assign rfl) rfl rfl rfl ?_
  refine doL_nil ?_
  refine post_then ?_
  refine doC_seq ?_
  refine doC_region ?_
  refine doL_v (opV_move rfl) rfl rfl rfl ?_
  refine doL_vg (F := vI) (opV_call en12 rfl (fun w _ => mRound _ _ (by first | omega | assumption | (unfold In64; omega) | decide) w)) rfl rfl rfl ?_; intro r7 hr7
  refine doL_v (opV_sub rfl rfl (by first | exact i64_in ⟨by omega, by omega⟩ | rfl)) rfl rfl rfl ?_
  refine doL_v (opV_assign rfl) rfl rfl rfl ?_
  refine doL_nil ?_
  refine post_then ?_
  refine doC_seq ?_
  refine doC_region ?_
  refine doL_v (opV_move rfl) rfl rfl rfl ?_
  refine doL_vg (F := iv) (opV_call en13 rfl (fun w _ => aSin _  w)) rfl rfl rfl ?_; intro r10 hr10
  refine doL_v (opV_move rfl) rfl rfl rfl ?_
  refine doL_vg (F := iv) (opV_call en16 rfl (fun w _ => aCos _  w)) rfl rfl rfl ?_; intro r12 hr12
  refine doL_alloc 4 ze24 rfl rfl rfl ?_; intro b4
  refine doL_alloc 5 ze24 rfl rfl rfl ?_; intro b5
  refine doL_store 4 ty24 rfl rfl rfl rfl rfl rfl rfl rfl ?_
  refine doL_store 5 ty24 rfl rfl rfl rfl rfl rfl rfl rfl ?_
  refine doL_nil ?_
  refine post_then ?_
  refine doC_seq ?_
  refine doC_drawn 53 mo (by kernel_rfl) ?_
  simp only [List.take_succ_cons, List.take_zero, List.drop_succ_cons, List.drop_zero]
  refine doG_vg (F := vB) (opV_call en14 rfl (fun w _ => awake3   w)) rfl rfl rfl ?_; intro r13 hr13
  obtain rfl : r13 = true := hr13
  refine doG_v (opV_move rfl) rfl rfl rfl ?_
  refine doG_v (opV_move rfl) rfl rfl rfl ?_
  refine doG_v (opV_add rfl rfl (by first | exact i64_in ⟨by omega, by omega⟩ | rfl)) rfl rfl rfl ?_
  refine doG_vg (F := iv) (opV_call en13 rfl (fun w _ => aSin _  w)) rfl rfl rfl ?_; intro r17 hr17
  refine doG_v (opV_loadA 4 ty24 rfl rfl rfl) rfl rfl rfl ?_
  refine doG_vg (F := vB) (opV_eqA 4 rfl ag24 rfl rfl (ce24 _ _) (ce24 _ _)) rfl rfl rfl ?_; intro r19 hr19
  obtain rfl : r19 = true := hr19.trans (eq_iv' (by rw [hr17, hr10]; exact sin_turn _))
  refine doG_v (opV_pick_t rfl rfl rfl rfl) rfl rfl rfl ?_
  refine doG_v (opV_move rfl) rfl rfl rfl ?_
  refine doG_v (opV_move rfl) rfl rfl rfl ?_
  refine doG_v (opV_sub rfl rfl (by first | exact i64_in ⟨by omega, by omega⟩ | rfl)) rfl rfl rfl ?_
  refine doG_vg (F := iv) (opV_call en16 rfl (fun w _ => aCos _  w)) rfl rfl rfl ?_; intro r24 hr24
  refine doG_v (opV_loadA 5 ty24 rfl rfl rfl) rfl rfl rfl ?_
  refine doG_vg (F := vB) (opV_eqA 4 rfl ag24 rfl rfl (ce24 _ _) (ce24 _ _)) rfl rfl rfl ?_; intro r26 hr26
  obtain rfl : r26 = true := hr26.trans (eq_iv' (by rw [hr24, hr12]; exact cos_turn _))
  refine doG_v (opV_pick_t rfl rfl rfl rfl) rfl rfl rfl ?_
  refine doG_v (opV_move rfl) rfl rfl rfl ?_
  refine doG_v (opV_move rfl) rfl rfl rfl ?_
  refine doG_v (opV_neg rfl (by first | exact neg_in ⟨by omega, by omega⟩ | rfl)) rfl rfl rfl ?_
  refine doG_vg (F := iv) (opV_call en13 rfl (fun w _ => aSin _  w)) rfl rfl rfl ?_; intro r31 hr31
  refine doG_v (opV_loadA 4 ty24 rfl rfl rfl) rfl rfl rfl ?_
  refine doG_vg (F := iv) (opV_call en18 rfl (fun w _ => rNeg _ _  w)) rfl rfl rfl ?_; intro r33 hr33
  refine doG_vg (F := vB) (opV_eqA 4 rfl ag24 rfl rfl (ce24 _ _) (ce24 _ _)) rfl rfl rfl ?_; intro r34 hr34
  obtain rfl : r34 = true := hr34.trans (eq_iv' (by rw [hr31, hr33, hr10]; exact sin_neg _))
  refine doG_v (opV_pick_t rfl rfl rfl rfl) rfl rfl rfl ?_
  refine doG_v (opV_move rfl) rfl rfl rfl ?_
  refine doG_v (opV_move rfl) rfl rfl rfl ?_
  refine doG_v (opV_neg rfl (by first | exact neg_in ⟨by omega, by omega⟩ | rfl)) rfl rfl rfl ?_
  refine doG_vg (F := iv) (opV_call en16 rfl (fun w _ => aCos _  w)) rfl rfl rfl ?_; intro r39 hr39
  refine doG_v (opV_loadA 5 ty24 rfl rfl rfl) rfl rfl rfl ?_
  refine doG_vg (F := vB) (opV_eqA 4 rfl ag24 rfl rfl (ce24 _ _) (ce24 _ _)) rfl rfl rfl ?_; intro r41 hr41
  obtain rfl : r41 = true := hr41.trans (eq_iv' (by rw [hr39, hr12]; exact cos_even _))
  refine doG_v (opV_pick_t rfl rfl rfl rfl) rfl rfl rfl ?_
  refine doG_v (opV_move rfl) rfl rfl rfl ?_
  refine doG_v (opV_move rfl) rfl rfl rfl ?_
  refine doG_v (opV_sub rfl rfl (by first | exact i64_in ⟨by omega, by omega⟩ | rfl)) rfl rfl rfl ?_
  refine doG_vg (F := iv) (opV_call en13 rfl (fun w _ => aSin _  w)) rfl rfl rfl ?_; intro r46 hr46
  refine doG_v (opV_loadA 4 ty24 rfl rfl rfl) rfl rfl rfl ?_
  refine doG_vg (F := vB) (opV_eqA 4 rfl ag24 rfl rfl (ce24 _ _) (ce24 _ _)) rfl rfl rfl ?_; intro r48 hr48
  obtain rfl : r48 = true := hr48.trans (eq_iv' (by rw [hr46, hr10]; exact sin_half _))
  refine doG_v (opV_pick_t rfl rfl rfl rfl) rfl rfl rfl ?_
  refine doG_v (opV_move rfl) rfl rfl rfl ?_
  refine doG_v (opV_move rfl) rfl rfl rfl ?_
  refine doG_v (opV_add rfl rfl (by first | exact i64_in ⟨by omega, by omega⟩ | rfl)) rfl rfl rfl ?_
  refine doG_vg (F := iv) (opV_call en13 rfl (fun w _ => aSin _  w)) rfl rfl rfl ?_; intro r53 hr53
  refine doG_v (opV_loadA 4 ty24 rfl rfl rfl) rfl rfl rfl ?_
  refine doG_vg (F := iv) (opV_call en18 rfl (fun w _ => rNeg _ _  w)) rfl rfl rfl ?_; intro r55 hr55
  refine doG_vg (F := vB) (opV_eqA 4 rfl ag24 rfl rfl (ce24 _ _) (ce24 _ _)) rfl rfl rfl ?_; intro r56 hr56
  obtain rfl : r56 = true := hr56.trans (eq_iv' (by rw [hr53, hr55, hr10]; exact sin_opp _))
  refine doG_v (opV_pick_t rfl rfl rfl rfl) rfl rfl rfl ?_
  refine doG_v (opV_move rfl) rfl rfl rfl ?_
  refine doG_v (opV_move rfl) rfl rfl rfl ?_
  refine doG_vg (F := iv) (opV_call en16 rfl (fun w _ => aCos _  w)) rfl rfl rfl ?_; intro r60 hr60
  refine doG_v (opV_move rfl) rfl rfl rfl ?_
  refine doG_v (opV_sub rfl rfl (by first | exact i64_in ⟨by omega, by omega⟩ | rfl)) rfl rfl rfl ?_
  refine doG_vg (F := iv) (opV_call en13 rfl (fun w _ => aSin _  w)) rfl rfl rfl ?_; intro r63 hr63
  refine doG_v (opV_eqA 4 rfl ag24 rfl rfl (ce24 _ _) (ce24 _ _)) rfl rfl rfl ?_
  refine doG_v (opV_pick_t rfl rfl rfl rfl) rfl rfl rfl ?_
  refine doG_nil ?_
  refine tail_nil ?_
  refine doL_v (opV_assign rfl) rfl rfl rfl ?_
  refine doL_nil ?_
  refine post_then ?_
  refine doC_ret ?_
  refine post_rets (rs := [.tmp 2]) rfl (resC (resIs_tmp rfl) (resN)) (congrArg (vB) (?_ : _ = true))
  exact eq_iv' (by rw [hr60, hr63]; exact cos_quarter _)

theorem wCircle (a : Int) (w : World) : Calls Try.prog 6 [.int .i64 a].toArray w (Rets (vB (true)) w) := by
  refine calls_of_doC (n := 48) Try.func6 rfl rfl rfl ?_
  refine doC_seq ?_
  refine doC_region ?_
  refine doL_v (opV_assign rfl) rfl rfl rfl ?_
  refine doL_nil ?_
  refine post_then ?_
  refine doC_seq ?_
  refine doC_region ?_
  refine doL_v (opV_move rfl) rfl rfl rfl ?_
  refine doL_vg (F := iv) (opV_call en13 rfl (fun w _ => aSin _  w)) rfl rfl rfl ?_; intro r8 hr8
  refine doL_v (opV_move rfl) rfl rfl rfl ?_
  refine doL_vg (F := iv) (opV_call en16 rfl (fun w _ => aCos _  w)) rfl rfl rfl ?_; intro r10 hr10
  refine doL_alloc 3 ze24 rfl rfl rfl ?_; intro b3
  refine doL_alloc 4 ze24 rfl rfl rfl ?_; intro b4
  refine doL_store 3 ty24 rfl rfl rfl rfl rfl rfl rfl rfl ?_
  refine doL_store 4 ty24 rfl rfl rfl rfl rfl rfl rfl rfl ?_
  refine doL_nil ?_
  refine post_then ?_
  refine doC_seq ?_
  refine doC_drawn 6 mo (by kernel_rfl) ?_
  simp only [List.take_succ_cons, List.take_zero, List.drop_succ_cons, List.drop_zero]
  refine doG_v (opV_loadA 3 ty24 rfl rfl rfl) rfl rfl rfl ?_
  refine doG_vg (F := iv) (opV_call en20 rfl (fun w _ => rSquare _ _  w)) rfl rfl rfl ?_; intro r12 hr12
  refine doG_v (opV_loadA 4 ty24 rfl rfl rfl) rfl rfl rfl ?_
  refine doG_vg (F := iv) (opV_call en20 rfl (fun w _ => rSquare _ _  w)) rfl rfl rfl ?_; intro r14 hr14
  refine doG_vg (F := iv) (opV_call en19 rfl (fun w _ => rAdd _ _ _ _  w)) rfl rfl rfl ?_; intro r15 hr15
  refine doG_alloc ze24 rfl rfl rfl rfl ?_
  refine doG_nil ?_
  refine tail_alloc 5 rfl ?_; intro b5_2
  refine tail_nil ?_
  refine doL_store 5 ty24 rfl rfl rfl rfl rfl rfl rfl rfl ?_
  refine doL_nil ?_
  refine post_then ?_
  refine doC_seq ?_
  refine doC_region ?_
  refine doL_v (opV_build la24 rfl rfl) rfl rfl rfl ?_
  refine doL_alloc 6 ze24 rfl rfl rfl ?_; intro b6
  refine doL_store 6 ty24 rfl rfl rfl rfl rfl rfl rfl rfl ?_
  refine doL_nil ?_
  refine post_then ?_
  refine doC_seq ?_
  have b1 := sin_bnd a
  have b2 := sin_bnd (a + 16384)
  rw [← cos_sin] at b2
  rw [← hr8] at b1
  rw [← hr10] at b2
  refine doC_region ?_
  refine doL_vg (F := vB) (opV_call en14 rfl (fun w _ => awake3   w)) rfl rfl rfl ?_; intro r17 hr17
  refine doL_v (opV_move rfl) rfl rfl rfl ?_
  refine doL_true 18 rfl (hr17) ?_
  refine doL_v (opV_loadA 5 ty24 rfl rfl rfl) rfl rfl rfl ?_
  refine doL_vg (F := vB) (opV_call en21 rfl (fun w _ => rHas _ _ _  w)) rfl rfl rfl ?_; intro r20 hr20
  refine doL_v (opV_pick_t rfl rfl rfl rfl) rfl rfl rfl ?_
  refine doL_v (opV_move rfl) rfl rfl rfl ?_
  refine doL_true 22 rfl (by rw [hr20, hr15, hr12, hr14, hr8, hr10]; exact circle_all _) ?_
  refine doL_v (opV_fieldAddr fa24_1 rfl) rfl rfl rfl ?_
  refine doL_v (opV_load1 3 ty2 rfl rfl rfl) rfl rfl rfl ?_
  refine doL_v (opV_fieldAddr fa24_0 rfl) rfl rfl rfl ?_
  refine doL_v (opV_load1 3 ty2 rfl rfl rfl) rfl rfl rfl ?_
  refine doL_v (opV_sub rfl rfl (by first | exact i64_in ⟨by omega, by omega⟩ | rfl)) rfl rfl rfl ?_
  refine doL_v (opV_leq rfl rfl) rfl rfl rfl ?_
  refine doL_v (opV_pick_t rfl rfl rfl rfl) rfl rfl rfl ?_
  refine doL_v (opV_move rfl) rfl rfl rfl ?_
  refine doL_true 30 rfl (decide_eq_true (by omega)) ?_
  refine doL_v (opV_fieldAddr fa24_1 rfl) rfl rfl rfl ?_
  refine doL_v (opV_load1 4 ty2 rfl rfl rfl) rfl rfl rfl ?_
  refine doL_v (opV_fieldAddr fa24_0 rfl) rfl rfl rfl ?_
  refine doL_v (opV_load1 4 ty2 rfl rfl rfl) rfl rfl rfl ?_
  refine doL_v (opV_sub rfl rfl (by first | exact i64_in ⟨by omega, by omega⟩ | rfl)) rfl rfl rfl ?_
  refine doL_v (opV_leq rfl rfl) rfl rfl rfl ?_
  refine doL_v (opV_pick_t rfl rfl rfl rfl) rfl rfl rfl ?_
  refine doL_v (opV_move rfl) rfl rfl rfl ?_
  refine doL_true 38 rfl (decide_eq_true (by omega)) ?_
  refine doL_v (opV_loadA 3 ty24 rfl rfl rfl) rfl rfl rfl ?_
  refine doL_v (opV_loadA 6 ty24 rfl rfl rfl) rfl rfl rfl ?_
  refine doL_vg (F := vB) (opV_call en22 rfl (fun w _ => rWithin _ _ _ _  w)) rfl rfl rfl ?_; intro r41 hr41
  refine doL_v (opV_pick_t rfl rfl rfl rfl) rfl rfl rfl ?_
  refine doL_v (opV_move rfl) rfl rfl rfl ?_
  refine doL_true 43 rfl (by rw [hr41]; exact within_of (by first | omega | (dsimp only; omega)) (by first | omega | (dsimp only; omega)) (by first | omega | (dsimp only; omega))) ?_
  refine doL_v (opV_loadA 4 ty24 rfl rfl rfl) rfl rfl rfl ?_
  refine doL_v (opV_loadA 6 ty24 rfl rfl rfl) rfl rfl rfl ?_
  refine doL_vg (F := vB) (opV_call en22 rfl (fun w _ => rWithin _ _ _ _  w)) rfl rfl rfl ?_; intro r46 hr46
  refine doL_v (opV_pick_t rfl rfl rfl rfl) rfl rfl rfl ?_
  refine doL_v (opV_assign rfl) rfl rfl rfl ?_
  refine doL_nil ?_
  refine post_then ?_
  refine doC_ret ?_
  refine post_rets (rs := [.tmp 2]) rfl (resC (resIs_tmp rfl) (resN)) (congrArg (vB) (?_ : _ = true))
  rw [hr46]; exact within_of (by first | omega | (dsimp only; omega)) (by first | omega | (dsimp only; omega)) (by first | omega | (dsimp only; omega))

theorem ix8 {i : Int} (h : 0 ≤ i ∧ i < 8) : ∀ w : World, (Instr.index 47 (.agg #[.int .i64 1, .int .i64 9, .int .i64 300, .int .i64 5000, .int .i64 20000, .int .i64 40000, .int .i64 66000, .int .i64 140000]) (.int .i64 i)).run Try.prog w = .ok (.int .i64 (wid8 i)) w := by
  have hi : i = 0 ∨ i = 1 ∨ i = 2 ∨ i = 3 ∨ i = 4 ∨ i = 5 ∨ i = 6 ∨ i = 7 := by omega
  rcases hi with rfl | rfl | rfl | rfl | rfl | rfl | rfl | rfl <;> (intro w; kernel_rfl)

theorem arcC (x : Int) (width : Int) (w : World) : Calls Try.prog 26 [.int .i64 x, .int .i64 width].toArray w (Rets (iv (arcI x width)) w) := by
  refine calls_of_doC (n := 22) Try.func26 rfl rfl rfl ?_
  refine doC_seq ?_
  refine doC_region ?_
  refine doL_alloc 4 ze24 rfl rfl rfl ?_; intro b4
  refine doL_nil ?_
  refine post_then ?_
  refine doC_seq ?_
  refine doC_region ?_
  refine doL_v (opV_move rfl) rfl rfl rfl ?_
  refine doL_vg (F := vI) (opV_call en12 rfl (fun w _ => mRound _ _ (by first | omega | assumption | (unfold In64; omega) | decide) w)) rfl rfl rfl ?_; intro r8 hr8
  refine doL_v (opV_sub rfl rfl (by first | exact i64_in ⟨by omega, by omega⟩ | rfl)) rfl rfl rfl ?_
  refine doL_v (opV_assign rfl) rfl rfl rfl ?_
  refine doL_nil ?_
  refine post_then ?_
  refine doC_seq ?_
  have t8 := wid8_pos (width % 8)
  refine doC_region ?_
  refine doL_v (opV_move rfl) rfl rfl rfl ?_
  refine doL_v (opV_shr rfl rfl (by first | decide | omega) shr_3) rfl rfl rfl ?_
  refine doL_v (opV_build la47 rfl rfl) rfl rfl rfl ?_
  refine doL_v (opV_move rfl) rfl rfl rfl ?_
  refine doL_v (opV_and rfl rfl and_7) rfl rfl rfl ?_
  refine doL_v (opV_index rfl rfl (ix8 (by omega))) rfl rfl rfl ?_
  refine doL_vg (F := vI) (opV_call en12 rfl (fun w _ => mRound _ _ (by first | omega | assumption | (unfold In64; omega) | decide) w)) rfl rfl rfl ?_; intro r16 hr16
  have qr16 := Int.emod_nonneg (width / 8) (show wid8 (width % 8) ≠ 0 by omega)
  have pr16 := Int.emod_lt_of_pos (width / 8) t8.1
  refine doL_v (opV_assign rfl) rfl rfl rfl ?_
  refine doL_nil ?_
  refine post_then ?_
  refine doC_seq ?_
  refine doC_region ?_
  refine doL_v (opV_move rfl) rfl rfl rfl ?_
  refine doL_v (opV_move rfl) rfl rfl rfl ?_
  refine doL_v (opV_move rfl) rfl rfl rfl ?_
  refine doL_v (opV_add rfl rfl (by first | exact i64_in ⟨by omega, by omega⟩ | rfl)) rfl rfl rfl ?_
  refine doL_v (opV_build la24 rfl rfl) rfl rfl rfl ?_
  refine doL_store 4 ty24 rfl rfl rfl rfl rfl rfl rfl rfl ?_
  refine doL_nil ?_
  refine post_then ?_
  refine doC_ret ?_
  refine post_rets (rs := [.cell 4 24]) rfl (resC (resIs_cell 4 rfl rfl ty24 rfl) (resN)) (congrArg (iv) (?_ : ⟨_, _⟩ = arcI x width))
  subst_vars; rfl

theorem wRanges (raw0 raw1 : Int) (x : Int) (width : Int) (w : World) : Calls Try.prog 9 [.agg #[.int .i64 raw0, .int .i64 raw1], .int .i64 x, .int .i64 width].toArray w (Rets (vB (true)) w) := by
  refine calls_of_doC (n := 40) Try.func9 rfl rfl rfl ?_
  refine doC_seq ?_
  refine doC_region ?_
  refine doL_box 3 rfl rfl rfl rfl ?_; intro b3
  refine doL_v (opV_assign rfl) rfl rfl rfl ?_
  refine doL_nil ?_
  refine post_then ?_
  refine doC_seq ?_
  refine doC_region ?_
  refine doL_v (opV_move rfl) rfl rfl rfl ?_
  refine doL_v (opV_move rfl) rfl rfl rfl ?_
  refine doL_vg (F := iv) (opV_call en26 rfl (fun w _ => arcC _ _  w)) rfl rfl rfl ?_; intro r10 hr10
  refine doL_alloc 7 ze24 rfl rfl rfl ?_; intro b7
  refine doL_store 7 ty24 rfl rfl rfl rfl rfl rfl rfl rfl ?_
  refine doL_nil ?_
  refine post_then ?_
  refine doC_seq ?_
  refine doC_drawn 29 mo (by kernel_rfl) ?_
  simp only [List.take_succ_cons, List.take_zero, List.drop_succ_cons, List.drop_zero]
  refine doG_vg (F := vB) (opV_call en14 rfl (fun w _ => awake3   w)) rfl rfl rfl ?_; intro r11 hr11
  obtain rfl : r11 = true := hr11
  refine doG_v (opV_move rfl) rfl rfl rfl ?_
  refine doG_v (opV_loadA 3 ty24 rfl rfl rfl) rfl rfl rfl ?_
  refine doG_vg (F := iv) (opV_call en27 rfl (fun w _ => aSinOver _ _  w)) rfl rfl rfl ?_; intro r14 hr14
  refine doG_v (opV_loadA 3 ty24 rfl rfl rfl) rfl rfl rfl ?_
  refine doG_vg (F := iv) (opV_call en28 rfl (fun w _ => rSinOver _ _  w)) rfl rfl rfl ?_; intro r16 hr16
  refine doG_vg (F := vB) (opV_eqA 4 rfl ag24 rfl rfl (ce24 _ _) (ce24 _ _)) rfl rfl rfl ?_; intro r17 hr17
  obtain rfl : r17 = true := hr17.trans (eq_iv' (hr14.trans hr16.symm))
  refine doG_v (opV_pick_t rfl rfl rfl rfl) rfl rfl rfl ?_
  refine doG_v (opV_move rfl) rfl rfl rfl ?_
  refine doG_v (opV_loadA 3 ty24 rfl rfl rfl) rfl rfl rfl ?_
  refine doG_vg (F := iv) (opV_call en29 rfl (fun w _ => aCosOver _ _  w)) rfl rfl rfl ?_; intro r21 hr21
  refine doG_v (opV_loadA 3 ty24 rfl rfl rfl) rfl rfl rfl ?_
  refine doG_vg (F := iv) (opV_call en30 rfl (fun w _ => rCosOver _ _  w)) rfl rfl rfl ?_; intro r23 hr23
  refine doG_vg (F := vB) (opV_eqA 4 rfl ag24 rfl rfl (ce24 _ _) (ce24 _ _)) rfl rfl rfl ?_; intro r24 hr24
  obtain rfl : r24 = true := hr24.trans (eq_iv' (hr21.trans hr23.symm))
  refine doG_v (opV_pick_t rfl rfl rfl rfl) rfl rfl rfl ?_
  refine doG_v (opV_move rfl) rfl rfl rfl ?_
  refine doG_v (opV_loadA 7 ty24 rfl rfl rfl) rfl rfl rfl ?_
  refine doG_vg (F := iv) (opV_call en27 rfl (fun w _ => aSinOver _ _  w)) rfl rfl rfl ?_; intro r28 hr28
  refine doG_v (opV_loadA 7 ty24 rfl rfl rfl) rfl rfl rfl ?_
  refine doG_vg (F := iv) (opV_call en28 rfl (fun w _ => rSinOver _ _  w)) rfl rfl rfl ?_; intro r30 hr30
  refine doG_vg (F := vB) (opV_eqA 4 rfl ag24 rfl rfl (ce24 _ _) (ce24 _ _)) rfl rfl rfl ?_; intro r31 hr31
  obtain rfl : r31 = true := hr31.trans (eq_iv' (hr28.trans hr30.symm))
  refine doG_v (opV_pick_t rfl rfl rfl rfl) rfl rfl rfl ?_
  refine doG_v (opV_move rfl) rfl rfl rfl ?_
  refine doG_v (opV_loadA 7 ty24 rfl rfl rfl) rfl rfl rfl ?_
  refine doG_vg (F := iv) (opV_call en29 rfl (fun w _ => aCosOver _ _  w)) rfl rfl rfl ?_; intro r35 hr35
  refine doG_v (opV_loadA 7 ty24 rfl rfl rfl) rfl rfl rfl ?_
  refine doG_vg (F := iv) (opV_call en30 rfl (fun w _ => rCosOver _ _  w)) rfl rfl rfl ?_; intro r37 hr37
  refine doG_v (opV_eqA 4 rfl ag24 rfl rfl (ce24 _ _) (ce24 _ _)) rfl rfl rfl ?_
  refine doG_v (opV_pick_t rfl rfl rfl rfl) rfl rfl rfl ?_
  refine doG_nil ?_
  refine tail_nil ?_
  refine doL_v (opV_assign rfl) rfl rfl rfl ?_
  refine doL_nil ?_
  refine post_then ?_
  refine doC_ret ?_
  refine post_rets (rs := [.tmp 6]) rfl (resC (resIs_tmp rfl) (resN)) (congrArg (vB) (?_ : _ = true))
  exact eq_iv' (hr35.trans hr37.symm)

theorem partC (a0 a1 : Int) (i : Int) (j : Int) (hv : -1000000000 ≤ ((⟨a0, a1⟩ : Iv)).lo ∧ ((⟨a0, a1⟩ : Iv)).lo ≤ ((⟨a0, a1⟩ : Iv)).hi ∧ ((⟨a0, a1⟩ : Iv)).hi ≤ 1000000000) (w : World) : Calls Try.prog 31 [.agg #[.int .i64 a0, .int .i64 a1], .int .i64 i, .int .i64 j].toArray w (Rets (iv (partI (⟨a0, a1⟩ : Iv) i j)) w) := by
  refine calls_of_doC (n := 42) Try.func31 rfl rfl rfl ?_
  refine doC_seq ?_
  simp only at hv
  refine doC_region ?_
  refine doL_box 3 rfl rfl rfl rfl ?_; intro b3
  refine doL_alloc 6 ze24 rfl rfl rfl ?_; intro b6
  refine doL_nil ?_
  refine post_then ?_
  refine doC_seq ?_
  refine doC_region ?_
  refine doL_v (opV_fieldAddr fa24_1 rfl) rfl rfl rfl ?_
  refine doL_v (opV_load1 3 ty2 rfl rfl rfl) rfl rfl rfl ?_
  refine doL_v (opV_fieldAddr fa24_0 rfl) rfl rfl rfl ?_
  refine doL_v (opV_load1 3 ty2 rfl rfl rfl) rfl rfl rfl ?_
  refine doL_v (opV_sub rfl rfl (by first | exact i64_in ⟨by omega, by omega⟩ | rfl)) rfl rfl rfl ?_
  refine doL_v (opV_add rfl rfl (by first | exact i64_in ⟨by omega, by omega⟩ | rfl)) rfl rfl rfl ?_
  refine doL_v (opV_assign rfl) rfl rfl rfl ?_
  refine doL_nil ?_
  refine post_then ?_
  refine doC_seq ?_
  refine doC_drawn 6 mo (by kernel_rfl) ?_
  simp only [List.take_succ_cons, List.take_zero, List.drop_succ_cons, List.drop_zero]
  refine doG_v (opV_fieldAddr fa24_0 rfl) rfl rfl rfl ?_
  refine doG_v (opV_load1 3 ty2 rfl rfl rfl) rfl rfl rfl ?_
  refine doG_v (opV_move rfl) rfl rfl rfl ?_
  refine doG_v (opV_move rfl) rfl rfl rfl ?_
  refine doG_vg (F := vI) (opV_call en12 rfl (fun w _ => mRound _ _ (by first | omega | assumption | (unfold In64; omega) | decide) w)) rfl rfl rfl ?_; intro r20 hr20
  have qr20 := Int.emod_nonneg i (show a1 - a0 + 1 ≠ 0 by omega)
  have pr20 := Int.emod_lt_of_pos i (show 0 < a1 - a0 + 1 by omega)
  refine doG_v (opV_add rfl rfl (by first | exact i64_in ⟨by omega, by omega⟩ | rfl)) rfl rfl rfl ?_
  refine doG_nil ?_
  refine tail_nil ?_
  refine doL_v (opV_assign rfl) rfl rfl rfl ?_
  refine doL_nil ?_
  refine post_then ?_
  refine doC_seq ?_
  refine doC_seq ?_
  refine doC_region ?_
  refine doL_v (opV_move rfl) rfl rfl rfl ?_
  refine doL_v (opV_and rfl rfl and_1) rfl rfl rfl ?_
  refine doL_v (opV_eql rfl rfl) rfl rfl rfl ?_
  refine doL_nil ?_
  refine post_then ?_
  refine doC_cond rfl (fun hc24 => ?_) (fun hc24 => ?_)
  ·
    refine doC_seq ?_
    refine doC_region ?_
    refine doL_v (opV_move rfl) rfl rfl rfl ?_
    refine doL_v (opV_move rfl) rfl rfl rfl ?_
    refine doL_v (opV_build la24 rfl rfl) rfl rfl rfl ?_
    refine doL_store 6 ty24 rfl rfl rfl rfl rfl rfl rfl rfl ?_
    refine doL_nil ?_
    refine post_then ?_
    refine doC_ret ?_
    refine post_then_ret ?_
    refine post_rets (rs := [.cell 6 24]) rfl (resC (resIs_cell 6 rfl rfl ty24 rfl) (resN)) (congrArg (iv) (?_ : ⟨_, _⟩ = partI (⟨a0, a1⟩ : Iv) i j))
    subst_vars; first | (simp_all [partI]; done) | (simp_all [partI] <;> omega) | grind [partI]
  ·
    refine doC_skip ?_
    refine post_then ?_
    refine doC_seq ?_
    refine doC_drawn 7 mo (by kernel_rfl) ?_
    simp only [List.take_succ_cons, List.take_zero, List.drop_succ_cons, List.drop_zero]
    refine doG_v (opV_fieldAddr fa24_0 rfl) rfl rfl rfl ?_
    refine doG_v (opV_load1 3 ty2 rfl rfl rfl) rfl rfl rfl ?_
    refine doG_v (opV_move rfl) rfl rfl rfl ?_
    refine doG_v (opV_shr rfl rfl (by first | decide | omega) shr_1) rfl rfl rfl ?_
    refine doG_v (opV_move rfl) rfl rfl rfl ?_
    refine doG_vg (F := vI) (opV_call en12 rfl (fun w _ => mRound _ _ (by first | omega | assumption | (unfold In64; omega) | decide) w)) rfl rfl rfl ?_; intro r33 hr33
    have qr33 := Int.emod_nonneg (j / 2) (show a1 - a0 + 1 ≠ 0 by omega)
    have pr33 := Int.emod_lt_of_pos (j / 2) (show 0 < a1 - a0 + 1 by omega)
    refine doG_v (opV_add rfl rfl (by first | exact i64_in ⟨by omega, by omega⟩ | rfl)) rfl rfl rfl ?_
    refine doG_nil ?_
    refine tail_nil ?_
    refine doL_v (opV_assign rfl) rfl rfl rfl ?_
    refine doL_nil ?_
    refine post_then ?_
    refine doC_seq ?_
    refine doC_region ?_
    refine doL_v (opV_move rfl) rfl rfl rfl ?_
    refine doL_v (opV_move rfl) rfl rfl rfl ?_
    refine doL_v (opV_min2 rfl rfl) rfl rfl rfl ?_
    refine doL_v (opV_move rfl) rfl rfl rfl ?_
    refine doL_v (opV_move rfl) rfl rfl rfl ?_
    refine doL_v (opV_max2 rfl rfl) rfl rfl rfl ?_
    refine doL_v (opV_build la24 rfl rfl) rfl rfl rfl ?_
    refine doL_store 6 ty24 rfl rfl rfl rfl rfl rfl rfl rfl ?_
    refine doL_nil ?_
    refine post_then ?_
    refine doC_ret ?_
    refine post_rets (rs := [.cell 6 24]) rfl (resC (resIs_cell 6 rfl rfl ty24 rfl) (resN)) (congrArg (iv) (?_ : ⟨_, _⟩ = partI (⟨a0, a1⟩ : Iv) i j))
    subst_vars; first | (simp_all [partI]; done) | (simp_all [partI] <;> omega) | grind [partI]

theorem wContains (x : Int) (width : Int) (at_ : Int) (w : World) : Calls Try.prog 10 [.int .i64 x, .int .i64 width, .int .i64 at_].toArray w (Rets (vB (true)) w) := by
  refine calls_of_doC (n := 38) Try.func10 rfl rfl rfl ?_
  refine doC_seq ?_
  refine doC_region ?_
  refine doL_v (opV_assign rfl) rfl rfl rfl ?_
  refine doL_nil ?_
  refine post_then ?_
  refine doC_seq ?_
  refine doC_region ?_
  refine doL_v (opV_move rfl) rfl rfl rfl ?_
  refine doL_v (opV_move rfl) rfl rfl rfl ?_
  refine doL_vg (F := iv) (opV_call en26 rfl (fun w _ => arcC _ _  w)) rfl rfl rfl ?_; intro r11 hr11
  have qr11 := arc_facts x width
  rw [← hr11] at qr11
  refine doL_alloc 7 ze24 rfl rfl rfl ?_; intro b7
  refine doL_store 7 ty24 rfl rfl rfl rfl rfl rfl rfl rfl ?_
  refine doL_nil ?_
  refine post_then ?_
  refine doC_seq ?_
  refine doC_drawn 11 mo (by kernel_rfl) ?_
  simp only [List.take_succ_cons, List.take_zero, List.drop_succ_cons, List.drop_zero]
  refine doG_v (opV_fieldAddr fa24_0 rfl) rfl rfl rfl ?_
  refine doG_v (opV_load1 7 ty2 rfl rfl rfl) rfl rfl rfl ?_
  refine doG_v (opV_move rfl) rfl rfl rfl ?_
  refine doG_v (opV_fieldAddr fa24_1 rfl) rfl rfl rfl ?_
  refine doG_v (opV_load1 7 ty2 rfl rfl rfl) rfl rfl rfl ?_
  refine doG_v (opV_fieldAddr fa24_0 rfl) rfl rfl rfl ?_
  refine doG_v (opV_load1 7 ty2 rfl rfl rfl) rfl rfl rfl ?_
  refine doG_v (opV_sub rfl rfl (by first | exact i64_in ⟨by omega, by omega⟩ | rfl)) rfl rfl rfl ?_
  refine doG_v (opV_add rfl rfl (by first | exact i64_in ⟨by omega, by omega⟩ | rfl)) rfl rfl rfl ?_
  refine doG_vg (F := vI) (opV_call en12 rfl (fun w _ => mRound _ _ (by first | omega | assumption | (unfold In64; omega) | decide) w)) rfl rfl rfl ?_; intro r21 hr21
  have qr21 := Int.emod_nonneg at_ (show r11.hi - r11.lo + 1 ≠ 0 by omega)
  have pr21 := Int.emod_lt_of_pos at_ (show 0 < r11.hi - r11.lo + 1 by omega)
  refine doG_v (opV_add rfl rfl (by first | exact i64_in ⟨by omega, by omega⟩ | rfl)) rfl rfl rfl ?_
  refine doG_nil ?_
  refine tail_nil ?_
  refine doL_v (opV_assign rfl) rfl rfl rfl ?_
  refine doL_nil ?_
  refine post_then ?_
  refine doC_seq ?_
  refine doC_drawn 15 mo (by kernel_rfl) ?_
  simp only [List.take_succ_cons, List.take_zero, List.drop_succ_cons, List.drop_zero]
  refine doG_vg (F := vB) (opV_call en14 rfl (fun w _ => awake3   w)) rfl rfl rfl ?_; intro r23 hr23
  obtain rfl : r23 = true := hr23
  refine doG_v (opV_move rfl) rfl rfl rfl ?_
  refine doG_v (opV_move rfl) rfl rfl rfl ?_
  refine doG_vg (F := iv) (opV_call en13 rfl (fun w _ => aSin _  w)) rfl rfl rfl ?_; intro r26 hr26
  refine doG_v (opV_loadA 7 ty24 rfl rfl rfl) rfl rfl rfl ?_
  refine doG_vg (F := iv) (opV_call en27 rfl (fun w _ => aSinOver _ _  w)) rfl rfl rfl ?_; intro r28 hr28
  refine doG_vg (F := vB) (opV_call en22 rfl (fun w _ => rWithin _ _ _ _  w)) rfl rfl rfl ?_; intro r29 hr29
  obtain rfl : r29 = true := by rw [hr29, hr26, hr28]; exact sin_within (by first | omega | (dsimp only; omega)) (by first | omega | (dsimp only; omega))
  refine doG_v (opV_pick_t rfl rfl rfl rfl) rfl rfl rfl ?_
  refine doG_v (opV_move rfl) rfl rfl rfl ?_
  refine doG_v (opV_move rfl) rfl rfl rfl ?_
  refine doG_vg (F := iv) (opV_call en16 rfl (fun w _ => aCos _  w)) rfl rfl rfl ?_; intro r33 hr33
  refine doG_v (opV_loadA 7 ty24 rfl rfl rfl) rfl rfl rfl ?_
  refine doG_vg (F := iv) (opV_call en29 rfl (fun w _ => aCosOver _ _  w)) rfl rfl rfl ?_; intro r35 hr35
  refine doG_vg (F := vB) (opV_call en22 rfl (fun w _ => rWithin _ _ _ _  w)) rfl rfl rfl ?_; intro r36 hr36
  refine doG_v (opV_pick_t rfl rfl rfl rfl) rfl rfl rfl ?_
  refine doG_nil ?_
  refine tail_nil ?_
  refine doL_v (opV_assign rfl) rfl rfl rfl ?_
  refine doL_nil ?_
  refine post_then ?_
  refine doC_ret ?_
  refine post_rets (rs := [.tmp 6]) rfl (resC (resIs_tmp rfl) (resN)) (congrArg (vB) (?_ : _ = true))
  rw [hr36, hr33, hr35]; exact cos_within (by first | omega | (dsimp only; omega)) (by first | omega | (dsimp only; omega))

theorem wNested (x : Int) (width : Int) (i : Int) (j : Int) (w : World) : Calls Try.prog 11 [.int .i64 x, .int .i64 width, .int .i64 i, .int .i64 j].toArray w (Rets (vB (true)) w) := by
  refine calls_of_doC (n := 33) Try.func11 rfl rfl rfl ?_
  refine doC_seq ?_
  refine doC_region ?_
  refine doL_v (opV_assign rfl) rfl rfl rfl ?_
  refine doL_nil ?_
  refine post_then ?_
  refine doC_seq ?_
  refine doC_region ?_
  refine doL_v (opV_move rfl) rfl rfl rfl ?_
  refine doL_v (opV_move rfl) rfl rfl rfl ?_
  refine doL_vg (F := iv) (opV_call en26 rfl (fun w _ => arcC _ _  w)) rfl rfl rfl ?_; intro r13 hr13
  have qr13 := arc_facts x width
  rw [← hr13] at qr13
  refine doL_alloc 9 ze24 rfl rfl rfl ?_; intro b9
  refine doL_store 9 ty24 rfl rfl rfl rfl rfl rfl rfl rfl ?_
  refine doL_nil ?_
  refine post_then ?_
  refine doC_seq ?_
  refine doC_region ?_
  refine doL_v (opV_loadA 9 ty24 rfl rfl rfl) rfl rfl rfl ?_
  refine doL_v (opV_move rfl) rfl rfl rfl ?_
  refine doL_v (opV_move rfl) rfl rfl rfl ?_
  refine doL_vg (F := iv) (opV_call en31 rfl (fun w _ => partC _ _ _ _ (by first | omega | (dsimp only; omega)) w)) rfl rfl rfl ?_; intro r17 hr17
  have qr17 := part_in (a := r13) i j (by omega)
  rw [← hr17] at qr17
  refine doL_alloc 10 ze24 rfl rfl rfl ?_; intro b10
  refine doL_store 10 ty24 rfl rfl rfl rfl rfl rfl rfl rfl ?_
  refine doL_nil ?_
  refine post_then ?_
  refine doC_seq ?_
  refine doC_drawn 15 mo (by kernel_rfl) ?_
  simp only [List.take_succ_cons, List.take_zero, List.drop_succ_cons, List.drop_zero]
  refine doG_vg (F := vB) (opV_call en14 rfl (fun w _ => awake3   w)) rfl rfl rfl ?_; intro r18 hr18
  obtain rfl : r18 = true := hr18
  refine doG_v (opV_move rfl) rfl rfl rfl ?_
  refine doG_v (opV_loadA 10 ty24 rfl rfl rfl) rfl rfl rfl ?_
  refine doG_vg (F := iv) (opV_call en27 rfl (fun w _ => aSinOver _ _  w)) rfl rfl rfl ?_; intro r21 hr21
  refine doG_v (opV_loadA 9 ty24 rfl rfl rfl) rfl rfl rfl ?_
  refine doG_vg (F := iv) (opV_call en27 rfl (fun w _ => aSinOver _ _  w)) rfl rfl rfl ?_; intro r23 hr23
  refine doG_vg (F := vB) (opV_call en22 rfl (fun w _ => rWithin _ _ _ _  w)) rfl rfl rfl ?_; intro r24 hr24
  obtain rfl : r24 = true := by rw [hr24, hr21, hr23]; exact sinOver_within (by first | omega | (dsimp only; omega)) (by first | omega | (dsimp only; omega))
  refine doG_v (opV_pick_t rfl rfl rfl rfl) rfl rfl rfl ?_
  refine doG_v (opV_move rfl) rfl rfl rfl ?_
  refine doG_v (opV_loadA 10 ty24 rfl rfl rfl) rfl rfl rfl ?_
  refine doG_vg (F := iv) (opV_call en29 rfl (fun w _ => aCosOver _ _  w)) rfl rfl rfl ?_; intro r28 hr28
  refine doG_v (opV_loadA 9 ty24 rfl rfl rfl) rfl rfl rfl ?_
  refine doG_vg (F := iv) (opV_call en29 rfl (fun w _ => aCosOver _ _  w)) rfl rfl rfl ?_; intro r30 hr30
  refine doG_vg (F := vB) (opV_call en22 rfl (fun w _ => rWithin _ _ _ _  w)) rfl rfl rfl ?_; intro r31 hr31
  refine doG_v (opV_pick_t rfl rfl rfl rfl) rfl rfl rfl ?_
  refine doG_nil ?_
  refine tail_nil ?_
  refine doL_v (opV_assign rfl) rfl rfl rfl ?_
  refine doL_nil ?_
  refine post_then ?_
  refine doC_ret ?_
  refine post_rets (rs := [.tmp 8]) rfl (resC (resIs_tmp rfl) (resN)) (congrArg (vB) (?_ : _ = true))
  rw [hr31, hr28, hr30]; exact cosOver_within (by first | omega | (dsimp only; omega)) (by first | omega | (dsimp only; omega))

end Go.Proofs.Ytcbbdogjcooljaa

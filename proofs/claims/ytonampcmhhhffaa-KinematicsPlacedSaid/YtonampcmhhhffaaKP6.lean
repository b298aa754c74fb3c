/- Part 6 of the texts behind the last one: rules and contracts. No condition. -/
import Derived.Test.YtonampcmhhhffaaKP5
namespace Go.Proofs.Ytonampcmhhhffaa
open Go.Sx
theorem ze70 : zeroIs Try.prog 70 (.agg #[.string ByteArray.empty, .int .i64 0, .int .i64 0, .int .i64 0, .int .i64 0, .int .i64 0, .int .i64 0, .int .i64 0, .int .i64 0, .int .i64 0, .int .i64 0, .int .i64 0]) := by unfold zeroIs; kernel_rfl
theorem en153 : Enters Try.prog 153 := enters_of Try.func153 (by kernel_rfl) (by kernel_rfl)
theorem la70 : layoutOf Try.prog 70 = some ([.string ByteArray.empty, .int .i64 0, .int .i64 0, .int .i64 0, .int .i64 0, .int .i64 0, .int .i64 0, .int .i64 0, .int .i64 0, .int .i64 0, .int .i64 0, .int .i64 0], [(0, 1), (1, 1), (2, 1), (3, 3), (6, 1), (7, 1), (8, 1), (9, 1), (10, 1), (11, 1)]) := by kernel_rfl
theorem ty70 : tyB Try.prog 70 true 12 = true := by kernel_rfl
theorem la152 : layoutOf Try.prog 152 = some ([.int .i64 0, .int .i64 0, .int .i64 0, .int .i64 0, .int .i64 0, .int .i64 0, .int .i64 0, .int .i64 0], [(0, 1), (1, 1), (2, 1), (3, 1), (4, 1), (5, 1), (6, 1), (7, 1)]) := by kernel_rfl
theorem fa70_1 : fieldB Try.prog 70 1 1 = true := by kernel_rfl
theorem fa70_2 : fieldB Try.prog 70 2 2 = true := by kernel_rfl
theorem en28 : Enters Try.prog 28 := enters_of Try.func28 (by kernel_rfl) (by kernel_rfl)
theorem la38 : layoutOf Try.prog 38 = some ([.int .i64 0, .int .i64 0, .int .i64 0], [(0, 1), (1, 1), (2, 1)]) := by kernel_rfl
theorem fa70_3 : fieldB Try.prog 70 3 3 = true := by kernel_rfl
theorem ty38 : tyB Try.prog 38 true 3 = true := by kernel_rfl
theorem fa70_4 : fieldB Try.prog 70 4 6 = true := by kernel_rfl
theorem fa70_5 : fieldB Try.prog 70 5 7 = true := by kernel_rfl
theorem mkLetter (k : Int) (hk : 0 ≤ k ∧ k ≤ 9) (w : World) : Calls Try.prog 153 [.int .i64 k].toArray w (Rets (vS (letterB k)) (w)) := by
  refine calls_of_doC (n := 7) Try.func153 rfl rfl rfl ?_
  refine doC_seq ?_
  refine doC_region ?_
  refine doL_v (opV_assign rfl) rfl rfl rfl ?_
  refine doL_nil ?_
  refine post_then ?_
  refine doC_seq ?_
  refine doC_region ?_
  refine doL_v (opV_move rfl) rfl rfl rfl ?_
  refine doL_v (opV_move rfl) rfl rfl rfl ?_
  refine doL_v (opV_add rfl rfl (by first | exact i64_in ⟨by omega, by omega⟩ | rfl)) rfl rfl rfl ?_
  refine doL_v (opV_sliceStr (s := abc) Try.underlying9 rfl rfl rfl (by omega) (by omega) (by show _ ≤ (10 : Int); omega)) rfl rfl rfl ?_
  refine doL_v (opV_assign rfl) rfl rfl rfl ?_
  refine doL_nil ?_
  refine post_then ?_
  refine doC_ret ?_
  refine post_rets (rs := [.tmp 2]) rfl (resC (resIs_tmp rfl) (resN)) (congrArg (vS) (?_ : _ = letterB k))
  rfl
theorem ixK {i : Int} (h : 0 ≤ i ∧ i < 8) : ∀ w : World, (Instr.index 152 (.agg #[.int .i64 3, .int .i64 3, .int .i64 1, .int .i64 2, .int .i64 4, .int .i64 5, .int .i64 3, .int .i64 0]) (.int .i64 i)).run Try.prog w = .ok (.int .i64 (kindOf i)) w := by
  have hi : i = 0 ∨ i = 1 ∨ i = 2 ∨ i = 3 ∨ i = 4 ∨ i = 5 ∨ i = 6 ∨ i = 7 := by omega
  rcases hi with rfl | rfl | rfl | rfl | rfl | rfl | rfl | rfl <;> (intro w; kernel_rfl)
theorem quo8 {a : Int} (h : -9000000000 ≤ a ∧ a ≤ 9000000000) : IntKind.i64.wrap (a.tdiv 8) = a.tdiv 8 := i64_in (by
  have := tdiv_bnd (a := a) (b := 8) (by unfold In64; omega) (by decide)
  exact this)
theorem hi8 {a b : Int} (ha : 0 ≤ a ∧ a < 4) (hb : 0 ≤ b ∧ b < 3) : IntKind.i64.wrap (((1 + a) * 65536).tdiv 8 + b) = ((1 + a) * 65536).tdiv 8 + b := i64_in (by
  rw [Int.tdiv_eq_ediv_of_nonneg (by omega)]; omega)
theorem mkJoint {b : Nat} {sl : Value} {L : List Int} {i : Nat} (k : Int) (hk : 0 ≤ k ∧ k ≤ 9) (w : World) (hs : Src w b sl L i) : Calls Try.prog 128 [.pointer (some ⟨b, 0, none⟩), .int .i64 k].toArray w (Rets (jv ((jointOf L i k).1)) (srcW w b sl L ((jointOf L i k).2))) := by
  refine calls_src (n := 68) hs Try.func128 rfl rfl rfl ?_
  refine doC_seq ?_
  refine doC_region ?_
  refine doL_alloc 4 ze70 rfl rfl rfl ?_; intro b4
  refine doL_nil ?_
  refine post_then ?_
  refine doC_seq ?_
  refine doC_region ?_
  refine doL_v (opV_move rfl) rfl rfl rfl ?_
  refine doL_vg (F := vS) (opV_call en153 rfl (fun w _ => mkLetter _ (by first | omega | assumption | (unfold In64; omega) | decide) w)) rfl rfl rfl ?_; intro r7 hr7
  refine doL_v (opV_move rfl) rfl rfl rfl ?_
  refine doL_v (opV_sub rfl rfl (by first | exact i64_in ⟨by omega, by omega⟩ | rfl)) rfl rfl rfl ?_
  refine doL_v (opV_move rfl) rfl rfl rfl ?_
  refine doL_srcA (F := vI) hs en30 rfl (fun w' h => srcNext _ (by first | omega | assumption | (unfold In64; omega) | decide) w' h) rfl rfl ?_; intro r11 hr11
  have br11 := srcR_b hr11 (by first | decide | omega)
  refine doL_v (opV_add rfl rfl (by first | exact i64_in ⟨by omega, by omega⟩ | rfl)) rfl rfl rfl ?_
  refine doL_v (opV_move rfl) rfl rfl rfl ?_
  refine doL_srcA (F := vI) hs en30 rfl (fun w' h => srcNext _ (by first | omega | assumption | (unfold In64; omega) | decide) w' h) rfl rfl ?_; intro r14 hr14
  have br14 := srcR_b hr14 (by first | decide | omega)
  refine doL_v (opV_add rfl rfl (by first | exact i64_in ⟨by omega, by omega⟩ | rfl)) rfl rfl rfl ?_
  refine doL_v (opV_build la70 rfl rfl) rfl rfl rfl ?_
  refine doL_alloc 5 ze70 rfl rfl rfl ?_; intro b5
  refine doL_store 5 ty70 rfl rfl rfl rfl rfl rfl rfl rfl ?_
  refine doL_nil ?_
  refine post_then ?_
  refine doC_seq ?_
  refine doC_region ?_
  refine doL_v (opV_build la152 rfl rfl) rfl rfl rfl ?_
  refine doL_v (opV_move rfl) rfl rfl rfl ?_
  refine doL_srcA (F := vI) hs en30 rfl (fun w' h => srcNext _ (by first | omega | assumption | (unfold In64; omega) | decide) w' h) rfl rfl ?_; intro r19 hr19
  have br19 := srcR_b hr19 (by first | decide | omega)
  refine doL_v (opV_index rfl rfl (ixK (by omega))) rfl rfl rfl ?_
  refine doL_v (opV_fieldAddr fa70_1 rfl) rfl rfl rfl ?_
  refine doL_store 5 ty3 rfl rfl rfl rfl rfl rfl rfl rfl ?_
  refine doL_nil ?_
  refine post_then ?_
  refine doC_seq ?_
  refine doC_seq ?_
  refine doC_region ?_
  refine doL_v (opV_move rfl) rfl rfl rfl ?_
  refine doL_srcA (F := vI) hs en30 rfl (fun w' h => srcNext _ (by first | omega | assumption | (unfold In64; omega) | decide) w' h) rfl rfl ?_; intro r23 hr23
  have br23 := srcR_b hr23 (by first | decide | omega)
  refine doL_v (opV_eql rfl rfl) rfl rfl rfl ?_
  refine doL_nil ?_
  refine post_then ?_
  refine doC_cond rfl (fun hc24 => ?_) (fun hc24 => ?_)
  ·
    have hp : srcR L (i + 3) 4 = 1 := by have := of_decide_eq_true hc24; rw [← this]; exact hr23.symm
    refine doC_region ?_
    refine doL_v (opV_fieldAddr fa70_2 rfl) rfl rfl rfl ?_
    refine doL_store 5 ty3 rfl rfl rfl rfl rfl rfl rfl rfl ?_
    refine doL_nil ?_
    refine post_then ?_
    refine doC_seq ?_
    refine doC_seq ?_
    refine doC_region ?_
    refine doL_v (opV_move rfl) rfl rfl rfl ?_
    refine doL_v (opV_gtr rfl rfl) rfl rfl rfl ?_
    refine doL_nil ?_
    refine post_then ?_
    refine doC_cond rfl (fun hc27 => ?_) (fun hc27 => ?_)
    ·
      have hi : 0 < k := of_decide_eq_true hc27
      refine doC_region ?_
      refine doL_v (opV_move rfl) rfl rfl rfl ?_
      refine doL_srcA (F := vI) hs en28 rfl (fun w' h => srcSigned _ (by first | omega | assumption | (unfold In64; omega) | decide) w' h) rfl rfl ?_; intro r29 hr29
      have br29 := srcS_b hr29 (by first | decide | omega)
      refine doL_v (opV_mul rfl rfl (by first | exact i64_in ⟨by omega, by omega⟩ | rfl)) rfl rfl rfl ?_
      refine doL_v (opV_move rfl) rfl rfl rfl ?_
      refine doL_srcA (F := vI) hs en28 rfl (fun w' h => srcSigned _ (by first | omega | assumption | (unfold In64; omega) | decide) w' h) rfl rfl ?_; intro r32 hr32
      have br32 := srcS_b hr32 (by first | decide | omega)
      refine doL_v (opV_mul rfl rfl (by first | exact i64_in ⟨by omega, by omega⟩ | rfl)) rfl rfl rfl ?_
      refine doL_v (opV_build la38 rfl rfl) rfl rfl rfl ?_
      refine doL_v (opV_fieldAddr fa70_3 rfl) rfl rfl rfl ?_
      refine doL_store 5 ty38 rfl rfl rfl rfl rfl rfl rfl rfl ?_
      refine doL_nil ?_
      refine post_then ?_
      refine doC_seq ?_
      refine doC_seq ?_
      refine doC_region ?_
      refine doL_v (opV_fieldAddr fa70_1 rfl) rfl rfl rfl ?_
      refine doL_v (opV_load1 5 ty3 rfl rfl rfl) rfl rfl rfl ?_
      refine doL_nil ?_
      refine post_then ?_
      refine doC_block ?_
      refine doC_seq ?_
      refine doC_region ?_
      refine doL_v (opV_eql rfl rfl) rfl rfl rfl ?_
      refine doL_v (opV_assign rfl) rfl rfl rfl ?_
      refine doL_nil ?_
      refine post_then ?_
      refine doC_cond rfl (fun hc53 => ?_) (fun hc53 => ?_)
      ·
        have hk0 : kindOf (srcR L (i + 2) 8) = 0 := by have := of_decide_eq_true hc53; rw [hr19] at this; exact this
        rw [jointOf_fix hk0]
        first | rw [jBase_a hp hi, jQ_pos hi] | rw [jBase_b hp hi, jQ_neg hi] | rw [jBase_c hp hi, jQ_pos hi] | rw [jBase_d hp hi, jQ_neg hi]
        refine doC_skip ?_
        refine post_block_normal ?_
        refine post_then ?_
        refine doC_seq ?_
        refine doC_region ?_
        refine doL_v (opV_loadA 5 ty70 rfl rfl rfl) rfl rfl rfl ?_
        refine doL_store 4 ty70 rfl rfl rfl rfl rfl rfl rfl rfl ?_
        refine doL_nil ?_
        refine post_then ?_
        refine doC_ret ?_
        refine post_rets (rs := [.cell 4 70]) rfl (resC (resIs_cell 4 rfl rfl ty70 rfl) (resN)) ?_
        subst_vars; rfl
      ·
        have hk0 : ¬ kindOf (srcR L (i + 2) 8) = 0 := by have := of_decide_eq_false hc53; rw [hr19] at this; exact this
        refine doC_seq ?_
        refine doC_seq ?_
        refine doC_region ?_
        refine doL_v (opV_eql rfl rfl) rfl rfl rfl ?_
        refine doL_v (opV_assign rfl) rfl rfl rfl ?_
        refine doL_nil ?_
        refine post_then ?_
        refine doC_cond rfl (fun hc55 => ?_) (fun hc55 => ?_)
        ·
          have hk4 : kindOf (srcR L (i + 2) 8) = 4 := by have := of_decide_eq_true hc55; rw [hr19] at this; exact this
          rw [jointOf_sl (.inl hk4)]
          first | rw [jBase_a hp hi, jQ_pos hi] | rw [jBase_b hp hi, jQ_neg hi] | rw [jBase_c hp hi, jQ_pos hi] | rw [jBase_d hp hi, jQ_neg hi]
          refine doC_skip ?_
          refine post_then ?_
          refine doC_cond_t rfl (hc55) ?_
          refine doC_region ?_
          refine doL_v (opV_move rfl) rfl rfl rfl ?_
          refine doL_srcA (F := vI) hs en30 rfl (fun w' h => srcNext _ (by first | omega | assumption | (unfold In64; omega) | decide) w' h) rfl rfl ?_; intro r59 hr59
          have br59 := srcR_b hr59 (by first | decide | omega)
          refine doL_v (opV_neg rfl (by first | exact neg_in ⟨by omega, by omega⟩ | rfl)) rfl rfl rfl ?_
          refine doL_v (opV_mul rfl rfl (by first | exact i64_in ⟨by omega, by omega⟩ | rfl)) rfl rfl rfl ?_
          refine doL_v (opV_move rfl) rfl rfl rfl ?_
          refine doL_srcA (F := vI) hs en30 rfl (fun w' h => srcNext _ (by first | omega | assumption | (unfold In64; omega) | decide) w' h) rfl rfl ?_; intro r63 hr63
          have br63 := srcR_b hr63 (by first | decide | omega)
          refine doL_v (opV_mul rfl rfl (by first | exact i64_in ⟨by omega, by omega⟩ | rfl)) rfl rfl rfl ?_
          refine doL_v (opV_fieldAddr fa70_4 rfl) rfl rfl rfl ?_
          refine doL_store 5 ty2 rfl rfl rfl rfl rfl rfl rfl rfl ?_
          refine doL_v (opV_fieldAddr fa70_5 rfl) rfl rfl rfl ?_
          refine doL_store 5 ty2 rfl rfl rfl rfl rfl rfl rfl rfl ?_
          refine doL_nil ?_
          refine post_block_normal ?_
          refine post_then ?_
          refine doC_seq ?_
          refine doC_region ?_
          refine doL_v (opV_loadA 5 ty70 rfl rfl rfl) rfl rfl rfl ?_
          refine doL_store 4 ty70 rfl rfl rfl rfl rfl rfl rfl rfl ?_
          refine doL_nil ?_
          refine post_then ?_
          refine doC_ret ?_
          refine post_rets (rs := [.cell 4 70]) rfl (resC (resIs_cell 4 rfl rfl ty70 rfl) (resN)) ?_
          subst_vars; rfl
        ·
          have hk4 : ¬ kindOf (srcR L (i + 2) 8) = 4 := by have := of_decide_eq_false hc55; rw [hr19] at this; exact this
          refine doC_region ?_
          refine doL_v (opV_eql rfl rfl) rfl rfl rfl ?_
          refine doL_v (opV_assign rfl) rfl rfl rfl ?_
          refine doL_nil ?_
          refine post_then ?_
          refine doC_cond rfl (fun hc55_2 => ?_) (fun hc55_2 => ?_)
          ·
            have hk5 : kindOf (srcR L (i + 2) 8) = 5 := by have := of_decide_eq_true hc55_2; rw [hr19] at this; exact this
            rw [jointOf_sl (.inr hk5)]
            first | rw [jBase_a hp hi, jQ_pos hi] | rw [jBase_b hp hi, jQ_neg hi] | rw [jBase_c hp hi, jQ_pos hi] | rw [jBase_d hp hi, jQ_neg hi]
            refine doC_region ?_
            refine doL_v (opV_move rfl) rfl rfl rfl ?_
            refine doL_srcA (F := vI) hs en30 rfl (fun w' h => srcNext _ (by first | omega | assumption | (unfold In64; omega) | decide) w' h) rfl rfl ?_; intro r59 hr59
            have br59 := srcR_b hr59 (by first | decide | omega)
            refine doL_v (opV_neg rfl (by first | exact neg_in ⟨by omega, by omega⟩ | rfl)) rfl rfl rfl ?_
            refine doL_v (opV_mul rfl rfl (by first | exact i64_in ⟨by omega, by omega⟩ | rfl)) rfl rfl rfl ?_
            refine doL_v (opV_move rfl) rfl rfl rfl ?_
            refine doL_srcA (F := vI) hs en30 rfl (fun w' h => srcNext _ (by first | omega | assumption | (unfold In64; omega) | decide) w' h) rfl rfl ?_; intro r63 hr63
            have br63 := srcR_b hr63 (by first | decide | omega)
            refine doL_v (opV_mul rfl rfl (by first | exact i64_in ⟨by omega, by omega⟩ | rfl)) rfl rfl rfl ?_
            refine doL_v (opV_fieldAddr fa70_4 rfl) rfl rfl rfl ?_
            refine doL_store 5 ty2 rfl rfl rfl rfl rfl rfl rfl rfl ?_
            refine doL_v (opV_fieldAddr fa70_5 rfl) rfl rfl rfl ?_
            refine doL_store 5 ty2 rfl rfl rfl rfl rfl rfl rfl rfl ?_
            refine doL_nil ?_
            refine post_block_normal ?_
            refine post_then ?_
            refine doC_seq ?_
            refine doC_region ?_
            refine doL_v (opV_loadA 5 ty70 rfl rfl rfl) rfl rfl rfl ?_
            refine doL_store 4 ty70 rfl rfl rfl rfl rfl rfl rfl rfl ?_
            refine doL_nil ?_
            refine post_then ?_
            refine doC_ret ?_
            refine post_rets (rs := [.cell 4 70]) rfl (resC (resIs_cell 4 rfl rfl ty70 rfl) (resN)) ?_
            subst_vars; rfl
          ·
            have hk5 : ¬ kindOf (srcR L (i + 2) 8) = 5 := by have := of_decide_eq_false hc55_2; rw [hr19] at this; exact this
            rw [jointOf_tu hk0 (by omega)]
            first | rw [jBase_a hp hi, jQ_pos hi] | rw [jBase_b hp hi, jQ_neg hi] | rw [jBase_c hp hi, jQ_pos hi] | rw [jBase_d hp hi, jQ_neg hi]
            refine doC_region ?_
            refine doL_v (opV_move rfl) rfl rfl rfl ?_
            refine doL_srcA (F := vI) hs en30 rfl (fun w' h => srcNext _ (by first | omega | assumption | (unfold In64; omega) | decide) w' h) rfl rfl ?_; intro r39 hr39
            have br39 := srcR_b hr39 (by first | decide | omega)
            refine doL_v (opV_neg rfl (by first | exact neg_in ⟨by omega, by omega⟩ | rfl)) rfl rfl rfl ?_
            refine doL_v (opV_mul rfl rfl (by first | exact i64_in ⟨by omega, by omega⟩ | rfl)) rfl rfl rfl ?_
            refine doL_v (opV_quo rfl rfl (by first | decide | omega) (quo8 (by omega))) rfl rfl rfl ?_
            refine doL_v (opV_move rfl) rfl rfl rfl ?_
            refine doL_srcA (F := vI) hs en30 rfl (fun w' h => srcNext _ (by first | omega | assumption | (unfold In64; omega) | decide) w' h) rfl rfl ?_; intro r44 hr44
            have br44 := srcR_b hr44 (by first | decide | omega)
            refine doL_v (opV_add rfl rfl (by first | exact i64_in ⟨by omega, by omega⟩ | rfl)) rfl rfl rfl ?_
            refine doL_v (opV_mul rfl rfl (by first | exact i64_in ⟨by omega, by omega⟩ | rfl)) rfl rfl rfl ?_
            refine doL_v (opV_quo rfl rfl (by first | decide | omega) (quo8 (by omega))) rfl rfl rfl ?_
            refine doL_v (opV_move rfl) rfl rfl rfl ?_
            refine doL_srcA (F := vI) hs en30 rfl (fun w' h => srcNext _ (by first | omega | assumption | (unfold In64; omega) | decide) w' h) rfl rfl ?_; intro r49 hr49
            have br49 := srcR_b hr49 (by first | decide | omega)
            refine doL_v (opV_add rfl rfl (hi8 br44 br49)) rfl rfl rfl ?_
            refine doL_v (opV_fieldAddr fa70_4 rfl) rfl rfl rfl ?_
            refine doL_store 5 ty2 rfl rfl rfl rfl rfl rfl rfl rfl ?_
            refine doL_v (opV_fieldAddr fa70_5 rfl) rfl rfl rfl ?_
            refine doL_store 5 ty2 rfl rfl rfl rfl rfl rfl rfl rfl ?_
            refine doL_nil ?_
            refine post_block_normal ?_
            refine post_then ?_
            refine doC_seq ?_
            refine doC_region ?_
            refine doL_v (opV_loadA 5 ty70 rfl rfl rfl) rfl rfl rfl ?_
            refine doL_store 4 ty70 rfl rfl rfl rfl rfl rfl rfl rfl ?_
            refine doL_nil ?_
            refine post_then ?_
            refine doC_ret ?_
            refine post_rets (rs := [.cell 4 70]) rfl (resC (resIs_cell 4 rfl rfl ty70 rfl) (resN)) ?_
            subst_vars; rfl
    ·
      have hi : ¬ 0 < k := of_decide_eq_false hc27
      refine doC_skip ?_
      refine post_then ?_
      refine doC_seq ?_
      refine doC_seq ?_
      refine doC_region ?_
      refine doL_v (opV_fieldAddr fa70_1 rfl) rfl rfl rfl ?_
      refine doL_v (opV_load1 5 ty3 rfl rfl rfl) rfl rfl rfl ?_
      refine doL_nil ?_
      refine post_then ?_
      refine doC_block ?_
      refine doC_seq ?_
      refine doC_region ?_
      refine doL_v (opV_eql rfl rfl) rfl rfl rfl ?_
      refine doL_v (opV_assign rfl) rfl rfl rfl ?_
      refine doL_nil ?_
      refine post_then ?_
      refine doC_cond rfl (fun hc53 => ?_) (fun hc53 => ?_)
      ·
        have hk0 : kindOf (srcR L (i + 2) 8) = 0 := by have := of_decide_eq_true hc53; rw [hr19] at this; exact this
        rw [jointOf_fix hk0]
        first | rw [jBase_a hp hi, jQ_pos hi] | rw [jBase_b hp hi, jQ_neg hi] | rw [jBase_c hp hi, jQ_pos hi] | rw [jBase_d hp hi, jQ_neg hi]
        refine doC_skip ?_
        refine post_block_normal ?_
        refine post_then ?_
        refine doC_seq ?_
        refine doC_region ?_
        refine doL_v (opV_loadA 5 ty70 rfl rfl rfl) rfl rfl rfl ?_
        refine doL_store 4 ty70 rfl rfl rfl rfl rfl rfl rfl rfl ?_
        refine doL_nil ?_
        refine post_then ?_
        refine doC_ret ?_
        refine post_rets (rs := [.cell 4 70]) rfl (resC (resIs_cell 4 rfl rfl ty70 rfl) (resN)) ?_
        subst_vars; rfl
      ·
        have hk0 : ¬ kindOf (srcR L (i + 2) 8) = 0 := by have := of_decide_eq_false hc53; rw [hr19] at this; exact this
        refine doC_seq ?_
        refine doC_seq ?_
        refine doC_region ?_
        refine doL_v (opV_eql rfl rfl) rfl rfl rfl ?_
        refine doL_v (opV_assign rfl) rfl rfl rfl ?_
        refine doL_nil ?_
        refine post_then ?_
        refine doC_cond rfl (fun hc55 => ?_) (fun hc55 => ?_)
        ·
          have hk4 : kindOf (srcR L (i + 2) 8) = 4 := by have := of_decide_eq_true hc55; rw [hr19] at this; exact this
          rw [jointOf_sl (.inl hk4)]
          first | rw [jBase_a hp hi, jQ_pos hi] | rw [jBase_b hp hi, jQ_neg hi] | rw [jBase_c hp hi, jQ_pos hi] | rw [jBase_d hp hi, jQ_neg hi]
          refine doC_skip ?_
          refine post_then ?_
          refine doC_cond_t rfl (hc55) ?_
          refine doC_region ?_
          refine doL_v (opV_move rfl) rfl rfl rfl ?_
          refine doL_srcA (F := vI) hs en30 rfl (fun w' h => srcNext _ (by first | omega | assumption | (unfold In64; omega) | decide) w' h) rfl rfl ?_; intro r59 hr59
          have br59 := srcR_b hr59 (by first | decide | omega)
          refine doL_v (opV_neg rfl (by first | exact neg_in ⟨by omega, by omega⟩ | rfl)) rfl rfl rfl ?_
          refine doL_v (opV_mul rfl rfl (by first | exact i64_in ⟨by omega, by omega⟩ | rfl)) rfl rfl rfl ?_
          refine doL_v (opV_move rfl) rfl rfl rfl ?_
          refine doL_srcA (F := vI) hs en30 rfl (fun w' h => srcNext _ (by first | omega | assumption | (unfold In64; omega) | decide) w' h) rfl rfl ?_; intro r63 hr63
          have br63 := srcR_b hr63 (by first | decide | omega)
          refine doL_v (opV_mul rfl rfl (by first | exact i64_in ⟨by omega, by omega⟩ | rfl)) rfl rfl rfl ?_
          refine doL_v (opV_fieldAddr fa70_4 rfl) rfl rfl rfl ?_
          refine doL_store 5 ty2 rfl rfl rfl rfl rfl rfl rfl rfl ?_
          refine doL_v (opV_fieldAddr fa70_5 rfl) rfl rfl rfl ?_
          refine doL_store 5 ty2 rfl rfl rfl rfl rfl rfl rfl rfl ?_
          refine doL_nil ?_
          refine post_block_normal ?_
          refine post_then ?_
          refine doC_seq ?_
          refine doC_region ?_
          refine doL_v (opV_loadA 5 ty70 rfl rfl rfl) rfl rfl rfl ?_
          refine doL_store 4 ty70 rfl rfl rfl rfl rfl rfl rfl rfl ?_
          refine doL_nil ?_
          refine post_then ?_
          refine doC_ret ?_
          refine post_rets (rs := [.cell 4 70]) rfl (resC (resIs_cell 4 rfl rfl ty70 rfl) (resN)) ?_
          subst_vars; rfl
        ·
          have hk4 : ¬ kindOf (srcR L (i + 2) 8) = 4 := by have := of_decide_eq_false hc55; rw [hr19] at this; exact this
          refine doC_region ?_
          refine doL_v (opV_eql rfl rfl) rfl rfl rfl ?_
          refine doL_v (opV_assign rfl) rfl rfl rfl ?_
          refine doL_nil ?_
          refine post_then ?_
          refine doC_cond rfl (fun hc55_2 => ?_) (fun hc55_2 => ?_)
          ·
            have hk5 : kindOf (srcR L (i + 2) 8) = 5 := by have := of_decide_eq_true hc55_2; rw [hr19] at this; exact this
            rw [jointOf_sl (.inr hk5)]
            first | rw [jBase_a hp hi, jQ_pos hi] | rw [jBase_b hp hi, jQ_neg hi] | rw [jBase_c hp hi, jQ_pos hi] | rw [jBase_d hp hi, jQ_neg hi]
            refine doC_region ?_
            refine doL_v (opV_move rfl) rfl rfl rfl ?_
            refine doL_srcA (F := vI) hs en30 rfl (fun w' h => srcNext _ (by first | omega | assumption | (unfold In64; omega) | decide) w' h) rfl rfl ?_; intro r59 hr59
            have br59 := srcR_b hr59 (by first | decide | omega)
            refine doL_v (opV_neg rfl (by first | exact neg_in ⟨by omega, by omega⟩ | rfl)) rfl rfl rfl ?_
            refine doL_v (opV_mul rfl rfl (by first | exact i64_in ⟨by omega, by omega⟩ | rfl)) rfl rfl rfl ?_
            refine doL_v (opV_move rfl) rfl rfl rfl ?_
            refine doL_srcA (F := vI) hs en30 rfl (fun w' h => srcNext _ (by first | omega | assumption | (unfold In64; omega) | decide) w' h) rfl rfl ?_; intro r63 hr63
            have br63 := srcR_b hr63 (by first | decide | omega)
            refine doL_v (opV_mul rfl rfl (by first | exact i64_in ⟨by omega, by omega⟩ | rfl)) rfl rfl rfl ?_
            refine doL_v (opV_fieldAddr fa70_4 rfl) rfl rfl rfl ?_
            refine doL_store 5 ty2 rfl rfl rfl rfl rfl rfl rfl rfl ?_
            refine doL_v (opV_fieldAddr fa70_5 rfl) rfl rfl rfl ?_
            refine doL_store 5 ty2 rfl rfl rfl rfl rfl rfl rfl rfl ?_
            refine doL_nil ?_
            refine post_block_normal ?_
            refine post_then ?_
            refine doC_seq ?_
            refine doC_region ?_
            refine doL_v (opV_loadA 5 ty70 rfl rfl rfl) rfl rfl rfl ?_
            refine doL_store 4 ty70 rfl rfl rfl rfl rfl rfl rfl rfl ?_
            refine doL_nil ?_
            refine post_then ?_
            refine doC_ret ?_
            refine post_rets (rs := [.cell 4 70]) rfl (resC (resIs_cell 4 rfl rfl ty70 rfl) (resN)) ?_
            subst_vars; rfl
          ·
            have hk5 : ¬ kindOf (srcR L (i + 2) 8) = 5 := by have := of_decide_eq_false hc55_2; rw [hr19] at this; exact this
            rw [jointOf_tu hk0 (by omega)]
            first | rw [jBase_a hp hi, jQ_pos hi] | rw [jBase_b hp hi, jQ_neg hi] | rw [jBase_c hp hi, jQ_pos hi] | rw [jBase_d hp hi, jQ_neg hi]
            refine doC_region ?_
            refine doL_v (opV_move rfl) rfl rfl rfl ?_
            refine doL_srcA (F := vI) hs en30 rfl (fun w' h => srcNext _ (by first | omega | assumption | (unfold In64; omega) | decide) w' h) rfl rfl ?_; intro r39 hr39
            have br39 := srcR_b hr39 (by first | decide | omega)
            refine doL_v (opV_neg rfl (by first | exact neg_in ⟨by omega, by omega⟩ | rfl)) rfl rfl rfl ?_
            refine doL_v (opV_mul rfl rfl (by first | exact i64_in ⟨by omega, by omega⟩ | rfl)) rfl rfl rfl ?_
            refine doL_v (opV_quo rfl rfl (by first | decide | omega) (quo8 (by omega))) rfl rfl rfl ?_
            refine doL_v (opV_move rfl) rfl rfl rfl ?_
            refine doL_srcA (F := vI) hs en30 rfl (fun w' h => srcNext _ (by first | omega | assumption | (unfold In64; omega) | decide) w' h) rfl rfl ?_; intro r44 hr44
            have br44 := srcR_b hr44 (by first | decide | omega)
            refine doL_v (opV_add rfl rfl (by first | exact i64_in ⟨by omega, by omega⟩ | rfl)) rfl rfl rfl ?_
            refine doL_v (opV_mul rfl rfl (by first | exact i64_in ⟨by omega, by omega⟩ | rfl)) rfl rfl rfl ?_
            refine doL_v (opV_quo rfl rfl (by first | decide | omega) (quo8 (by omega))) rfl rfl rfl ?_
            refine doL_v (opV_move rfl) rfl rfl rfl ?_
            refine doL_srcA (F := vI) hs en30 rfl (fun w' h => srcNext _ (by first | omega | assumption | (unfold In64; omega) | decide) w' h) rfl rfl ?_; intro r49 hr49
            have br49 := srcR_b hr49 (by first | decide | omega)
            refine doL_v (opV_add rfl rfl (hi8 br44 br49)) rfl rfl rfl ?_
            refine doL_v (opV_fieldAddr fa70_4 rfl) rfl rfl rfl ?_
            refine doL_store 5 ty2 rfl rfl rfl rfl rfl rfl rfl rfl ?_
            refine doL_v (opV_fieldAddr fa70_5 rfl) rfl rfl rfl ?_
            refine doL_store 5 ty2 rfl rfl rfl rfl rfl rfl rfl rfl ?_
            refine doL_nil ?_
            refine post_block_normal ?_
            refine post_then ?_
            refine doC_seq ?_
            refine doC_region ?_
            refine doL_v (opV_loadA 5 ty70 rfl rfl rfl) rfl rfl rfl ?_
            refine doL_store 4 ty70 rfl rfl rfl rfl rfl rfl rfl rfl ?_
            refine doL_nil ?_
            refine post_then ?_
            refine doC_ret ?_
            refine post_rets (rs := [.cell 4 70]) rfl (resC (resIs_cell 4 rfl rfl ty70 rfl) (resN)) ?_
            subst_vars; rfl
  ·
    have hp : ¬ srcR L (i + 3) 4 = 1 := fun e => by have := of_decide_eq_false hc24; exact this (hr23.trans e)
    refine doC_skip ?_
    refine post_then ?_
    refine doC_seq ?_
    refine doC_seq ?_
    refine doC_region ?_
    refine doL_v (opV_move rfl) rfl rfl rfl ?_
    refine doL_v (opV_gtr rfl rfl) rfl rfl rfl ?_
    refine doL_nil ?_
    refine post_then ?_
    refine doC_cond rfl (fun hc27 => ?_) (fun hc27 => ?_)
    ·
      have hi : 0 < k := of_decide_eq_true hc27
      refine doC_region ?_
      refine doL_v (opV_move rfl) rfl rfl rfl ?_
      refine doL_srcA (F := vI) hs en28 rfl (fun w' h => srcSigned _ (by first | omega | assumption | (unfold In64; omega) | decide) w' h) rfl rfl ?_; intro r29 hr29
      have br29 := srcS_b hr29 (by first | decide | omega)
      refine doL_v (opV_mul rfl rfl (by first | exact i64_in ⟨by omega, by omega⟩ | rfl)) rfl rfl rfl ?_
      refine doL_v (opV_move rfl) rfl rfl rfl ?_
      refine doL_srcA (F := vI) hs en28 rfl (fun w' h => srcSigned _ (by first | omega | assumption | (unfold In64; omega) | decide) w' h) rfl rfl ?_; intro r32 hr32
      have br32 := srcS_b hr32 (by first | decide | omega)
      refine doL_v (opV_mul rfl rfl (by first | exact i64_in ⟨by omega, by omega⟩ | rfl)) rfl rfl rfl ?_
      refine doL_v (opV_build la38 rfl rfl) rfl rfl rfl ?_
      refine doL_v (opV_fieldAddr fa70_3 rfl) rfl rfl rfl ?_
      refine doL_store 5 ty38 rfl rfl rfl rfl rfl rfl rfl rfl ?_
      refine doL_nil ?_
      refine post_then ?_
      refine doC_seq ?_
      refine doC_seq ?_
      refine doC_region ?_
      refine doL_v (opV_fieldAddr fa70_1 rfl) rfl rfl rfl ?_
      refine doL_v (opV_load1 5 ty3 rfl rfl rfl) rfl rfl rfl ?_
      refine doL_nil ?_
      refine post_then ?_
      refine doC_block ?_
      refine doC_seq ?_
      refine doC_region ?_
      refine doL_v (opV_eql rfl rfl) rfl rfl rfl ?_
      refine doL_v (opV_assign rfl) rfl rfl rfl ?_
      refine doL_nil ?_
      refine post_then ?_
      refine doC_cond rfl (fun hc53 => ?_) (fun hc53 => ?_)
      ·
        have hk0 : kindOf (srcR L (i + 2) 8) = 0 := by have := of_decide_eq_true hc53; rw [hr19] at this; exact this
        rw [jointOf_fix hk0]
        first | rw [jBase_a hp hi, jQ_pos hi] | rw [jBase_b hp hi, jQ_neg hi] | rw [jBase_c hp hi, jQ_pos hi] | rw [jBase_d hp hi, jQ_neg hi]
        refine doC_skip ?_
        refine post_block_normal ?_
        refine post_then ?_
        refine doC_seq ?_
        refine doC_region ?_
        refine doL_v (opV_loadA 5 ty70 rfl rfl rfl) rfl rfl rfl ?_
        refine doL_store 4 ty70 rfl rfl rfl rfl rfl rfl rfl rfl ?_
        refine doL_nil ?_
        refine post_then ?_
        refine doC_ret ?_
        refine post_rets (rs := [.cell 4 70]) rfl (resC (resIs_cell 4 rfl rfl ty70 rfl) (resN)) ?_
        subst_vars; rfl
      ·
        have hk0 : ¬ kindOf (srcR L (i + 2) 8) = 0 := by have := of_decide_eq_false hc53; rw [hr19] at this; exact this
        refine doC_seq ?_
        refine doC_seq ?_
        refine doC_region ?_
        refine doL_v (opV_eql rfl rfl) rfl rfl rfl ?_
        refine doL_v (opV_assign rfl) rfl rfl rfl ?_
        refine doL_nil ?_
        refine post_then ?_
        refine doC_cond rfl (fun hc55 => ?_) (fun hc55 => ?_)
        ·
          have hk4 : kindOf (srcR L (i + 2) 8) = 4 := by have := of_decide_eq_true hc55; rw [hr19] at this; exact this
          rw [jointOf_sl (.inl hk4)]
          first | rw [jBase_a hp hi, jQ_pos hi] | rw [jBase_b hp hi, jQ_neg hi] | rw [jBase_c hp hi, jQ_pos hi] | rw [jBase_d hp hi, jQ_neg hi]
          refine doC_skip ?_
          refine post_then ?_
          refine doC_cond_t rfl (hc55) ?_
          refine doC_region ?_
          refine doL_v (opV_move rfl) rfl rfl rfl ?_
          refine doL_srcA (F := vI) hs en30 rfl (fun w' h => srcNext _ (by first | omega | assumption | (unfold In64; omega) | decide) w' h) rfl rfl ?_; intro r59 hr59
          have br59 := srcR_b hr59 (by first | decide | omega)
          refine doL_v (opV_neg rfl (by first | exact neg_in ⟨by omega, by omega⟩ | rfl)) rfl rfl rfl ?_
          refine doL_v (opV_mul rfl rfl (by first | exact i64_in ⟨by omega, by omega⟩ | rfl)) rfl rfl rfl ?_
          refine doL_v (opV_move rfl) rfl rfl rfl ?_
          refine doL_srcA (F := vI) hs en30 rfl (fun w' h => srcNext _ (by first | omega | assumption | (unfold In64; omega) | decide) w' h) rfl rfl ?_; intro r63 hr63
          have br63 := srcR_b hr63 (by first | decide | omega)
          refine doL_v (opV_mul rfl rfl (by first | exact i64_in ⟨by omega, by omega⟩ | rfl)) rfl rfl rfl ?_
          refine doL_v (opV_fieldAddr fa70_4 rfl) rfl rfl rfl ?_
          refine doL_store 5 ty2 rfl rfl rfl rfl rfl rfl rfl rfl ?_
          refine doL_v (opV_fieldAddr fa70_5 rfl) rfl rfl rfl ?_
          refine doL_store 5 ty2 rfl rfl rfl rfl rfl rfl rfl rfl ?_
          refine doL_nil ?_
          refine post_block_normal ?_
          refine post_then ?_
          refine doC_seq ?_
          refine doC_region ?_
          refine doL_v (opV_loadA 5 ty70 rfl rfl rfl) rfl rfl rfl ?_
          refine doL_store 4 ty70 rfl rfl rfl rfl rfl rfl rfl rfl ?_
          refine doL_nil ?_
          refine post_then ?_
          refine doC_ret ?_
          refine post_rets (rs := [.cell 4 70]) rfl (resC (resIs_cell 4 rfl rfl ty70 rfl) (resN)) ?_
          subst_vars; rfl
        ·
          have hk4 : ¬ kindOf (srcR L (i + 2) 8) = 4 := by have := of_decide_eq_false hc55; rw [hr19] at this; exact this
          refine doC_region ?_
          refine doL_v (opV_eql rfl rfl) rfl rfl rfl ?_
          refine doL_v (opV_assign rfl) rfl rfl rfl ?_
          refine doL_nil ?_
          refine post_then ?_
          refine doC_cond rfl (fun hc55_2 => ?_) (fun hc55_2 => ?_)
          ·
            have hk5 : kindOf (srcR L (i + 2) 8) = 5 := by have := of_decide_eq_true hc55_2; rw [hr19] at this; exact this
            rw [jointOf_sl (.inr hk5)]
            first | rw [jBase_a hp hi, jQ_pos hi] | rw [jBase_b hp hi, jQ_neg hi] | rw [jBase_c hp hi, jQ_pos hi] | rw [jBase_d hp hi, jQ_neg hi]
            refine doC_region ?_
            refine doL_v (opV_move rfl) rfl rfl rfl ?_
            refine doL_srcA (F := vI) hs en30 rfl (fun w' h => srcNext _ (by first | omega | assumption | (unfold In64; omega) | decide) w' h) rfl rfl ?_; intro r59 hr59
            have br59 := srcR_b hr59 (by first | decide | omega)
            refine doL_v (opV_neg rfl (by first | exact neg_in ⟨by omega, by omega⟩ | rfl)) rfl rfl rfl ?_
            refine doL_v (opV_mul rfl rfl (by first | exact i64_in ⟨by omega, by omega⟩ | rfl)) rfl rfl rfl ?_
            refine doL_v (opV_move rfl) rfl rfl rfl ?_
            refine doL_srcA (F := vI) hs en30 rfl (fun w' h => srcNext _ (by first | omega | assumption | (unfold In64; omega) | decide) w' h) rfl rfl ?_; intro r63 hr63
            have br63 := srcR_b hr63 (by first | decide | omega)
            refine doL_v (opV_mul rfl rfl (by first | exact i64_in ⟨by omega, by omega⟩ | rfl)) rfl rfl rfl ?_
            refine doL_v (opV_fieldAddr fa70_4 rfl) rfl rfl rfl ?_
            refine doL_store 5 ty2 rfl rfl rfl rfl rfl rfl rfl rfl ?_
            refine doL_v (opV_fieldAddr fa70_5 rfl) rfl rfl rfl ?_
            refine doL_store 5 ty2 rfl rfl rfl rfl rfl rfl rfl rfl ?_
            refine doL_nil ?_
            refine post_block_normal ?_
            refine post_then ?_
            refine doC_seq ?_
            refine doC_region ?_
            refine doL_v (opV_loadA 5 ty70 rfl rfl rfl) rfl rfl rfl ?_
            refine doL_store 4 ty70 rfl rfl rfl rfl rfl rfl rfl rfl ?_
            refine doL_nil ?_
            refine post_then ?_
            refine doC_ret ?_
            refine post_rets (rs := [.cell 4 70]) rfl (resC (resIs_cell 4 rfl rfl ty70 rfl) (resN)) ?_
            subst_vars; rfl
          ·
            have hk5 : ¬ kindOf (srcR L (i + 2) 8) = 5 := by have := of_decide_eq_false hc55_2; rw [hr19] at this; exact this
            rw [jointOf_tu hk0 (by omega)]
            first | rw [jBase_a hp hi, jQ_pos hi] | rw [jBase_b hp hi, jQ_neg hi] | rw [jBase_c hp hi, jQ_pos hi] | rw [jBase_d hp hi, jQ_neg hi]
            refine doC_region ?_
            refine doL_v (opV_move rfl) rfl rfl rfl ?_
            refine doL_srcA (F := vI) hs en30 rfl (fun w' h => srcNext _ (by first | omega | assumption | (unfold In64; omega) | decide) w' h) rfl rfl ?_; intro r39 hr39
            have br39 := srcR_b hr39 (by first | decide | omega)
            refine doL_v (opV_neg rfl (by first | exact neg_in ⟨by omega, by omega⟩ | rfl)) rfl rfl rfl ?_
            refine doL_v (opV_mul rfl rfl (by first | exact i64_in ⟨by omega, by omega⟩ | rfl)) rfl rfl rfl ?_
            refine doL_v (opV_quo rfl rfl (by first | decide | omega) (quo8 (by omega))) rfl rfl rfl ?_
            refine doL_v (opV_move rfl) rfl rfl rfl ?_
            refine doL_srcA (F := vI) hs en30 rfl (fun w' h => srcNext _ (by first | omega | assumption | (unfold In64; omega) | decide) w' h) rfl rfl ?_; intro r44 hr44
            have br44 := srcR_b hr44 (by first | decide | omega)
            refine doL_v (opV_add rfl rfl (by first | exact i64_in ⟨by omega, by omega⟩ | rfl)) rfl rfl rfl ?_
            refine doL_v (opV_mul rfl rfl (by first | exact i64_in ⟨by omega, by omega⟩ | rfl)) rfl rfl rfl ?_
            refine doL_v (opV_quo rfl rfl (by first | decide | omega) (quo8 (by omega))) rfl rfl rfl ?_
            refine doL_v (opV_move rfl) rfl rfl rfl ?_
            refine doL_srcA (F := vI) hs en30 rfl (fun w' h => srcNext _ (by first | omega | assumption | (unfold In64; omega) | decide) w' h) rfl rfl ?_; intro r49 hr49
            have br49 := srcR_b hr49 (by first | decide | omega)
            refine doL_v (opV_add rfl rfl (hi8 br44 br49)) rfl rfl rfl ?_
            refine doL_v (opV_fieldAddr fa70_4 rfl) rfl rfl rfl ?_
            refine doL_store 5 ty2 rfl rfl rfl rfl rfl rfl rfl rfl ?_
            refine doL_v (opV_fieldAddr fa70_5 rfl) rfl rfl rfl ?_
            refine doL_store 5 ty2 rfl rfl rfl rfl rfl rfl rfl rfl ?_
            refine doL_nil ?_
            refine post_block_normal ?_
            refine post_then ?_
            refine doC_seq ?_
            refine doC_region ?_
            refine doL_v (opV_loadA 5 ty70 rfl rfl rfl) rfl rfl rfl ?_
            refine doL_store 4 ty70 rfl rfl rfl rfl rfl rfl rfl rfl ?_
            refine doL_nil ?_
            refine post_then ?_
            refine doC_ret ?_
            refine post_rets (rs := [.cell 4 70]) rfl (resC (resIs_cell 4 rfl rfl ty70 rfl) (resN)) ?_
            subst_vars; rfl
    ·
      have hi : ¬ 0 < k := of_decide_eq_false hc27
      refine doC_skip ?_
      refine post_then ?_
      refine doC_seq ?_
      refine doC_seq ?_
      refine doC_region ?_
      refine doL_v (opV_fieldAddr fa70_1 rfl) rfl rfl rfl ?_
      refine doL_v (opV_load1 5 ty3 rfl rfl rfl) rfl rfl rfl ?_
      refine doL_nil ?_
      refine post_then ?_
      refine doC_block ?_
      refine doC_seq ?_
      refine doC_region ?_
      refine doL_v (opV_eql rfl rfl) rfl rfl rfl ?_
      refine doL_v (opV_assign rfl) rfl rfl rfl ?_
      refine doL_nil ?_
      refine post_then ?_
      refine doC_cond rfl (fun hc53 => ?_) (fun hc53 => ?_)
      ·
        have hk0 : kindOf (srcR L (i + 2) 8) = 0 := by have := of_decide_eq_true hc53; rw [hr19] at this; exact this
        rw [jointOf_fix hk0]
        first | rw [jBase_a hp hi, jQ_pos hi] | rw [jBase_b hp hi, jQ_neg hi] | rw [jBase_c hp hi, jQ_pos hi] | rw [jBase_d hp hi, jQ_neg hi]
        refine doC_skip ?_
        refine post_block_normal ?_
        refine post_then ?_
        refine doC_seq ?_
        refine doC_region ?_
        refine doL_v (opV_loadA 5 ty70 rfl rfl rfl) rfl rfl rfl ?_
        refine doL_store 4 ty70 rfl rfl rfl rfl rfl rfl rfl rfl ?_
        refine doL_nil ?_
        refine post_then ?_
        refine doC_ret ?_
        refine post_rets (rs := [.cell 4 70]) rfl (resC (resIs_cell 4 rfl rfl ty70 rfl) (resN)) ?_
        subst_vars; rfl
      ·
        have hk0 : ¬ kindOf (srcR L (i + 2) 8) = 0 := by have := of_decide_eq_false hc53; rw [hr19] at this; exact this
        refine doC_seq ?_
        refine doC_seq ?_
        refine doC_region ?_
        refine doL_v (opV_eql rfl rfl) rfl rfl rfl ?_
        refine doL_v (opV_assign rfl) rfl rfl rfl ?_
        refine doL_nil ?_
        refine post_then ?_
        refine doC_cond rfl (fun hc55 => ?_) (fun hc55 => ?_)
        ·
          have hk4 : kindOf (srcR L (i + 2) 8) = 4 := by have := of_decide_eq_true hc55; rw [hr19] at this; exact this
          rw [jointOf_sl (.inl hk4)]
          first | rw [jBase_a hp hi, jQ_pos hi] | rw [jBase_b hp hi, jQ_neg hi] | rw [jBase_c hp hi, jQ_pos hi] | rw [jBase_d hp hi, jQ_neg hi]
          refine doC_skip ?_
          refine post_then ?_
          refine doC_cond_t rfl (hc55) ?_
          refine doC_region ?_
          refine doL_v (opV_move rfl) rfl rfl rfl ?_
          refine doL_srcA (F := vI) hs en30 rfl (fun w' h => srcNext _ (by first | omega | assumption | (unfold In64; omega) | decide) w' h) rfl rfl ?_; intro r59 hr59
          have br59 := srcR_b hr59 (by first | decide | omega)
          refine doL_v (opV_neg rfl (by first | exact neg_in ⟨by omega, by omega⟩ | rfl)) rfl rfl rfl ?_
          refine doL_v (opV_mul rfl rfl (by first | exact i64_in ⟨by omega, by omega⟩ | rfl)) rfl rfl rfl ?_
          refine doL_v (opV_move rfl) rfl rfl rfl ?_
          refine doL_srcA (F := vI) hs en30 rfl (fun w' h => srcNext _ (by first | omega | assumption | (unfold In64; omega) | decide) w' h) rfl rfl ?_; intro r63 hr63
          have br63 := srcR_b hr63 (by first | decide | omega)
          refine doL_v (opV_mul rfl rfl (by first | exact i64_in ⟨by omega, by omega⟩ | rfl)) rfl rfl rfl ?_
          refine doL_v (opV_fieldAddr fa70_4 rfl) rfl rfl rfl ?_
          refine doL_store 5 ty2 rfl rfl rfl rfl rfl rfl rfl rfl ?_
          refine doL_v (opV_fieldAddr fa70_5 rfl) rfl rfl rfl ?_
          refine doL_store 5 ty2 rfl rfl rfl rfl rfl rfl rfl rfl ?_
          refine doL_nil ?_
          refine post_block_normal ?_
          refine post_then ?_
          refine doC_seq ?_
          refine doC_region ?_
          refine doL_v (opV_loadA 5 ty70 rfl rfl rfl) rfl rfl rfl ?_
          refine doL_store 4 ty70 rfl rfl rfl rfl rfl rfl rfl rfl ?_
          refine doL_nil ?_
          refine post_then ?_
          refine doC_ret ?_
          refine post_rets (rs := [.cell 4 70]) rfl (resC (resIs_cell 4 rfl rfl ty70 rfl) (resN)) ?_
          subst_vars; rfl
        ·
          have hk4 : ¬ kindOf (srcR L (i + 2) 8) = 4 := by have := of_decide_eq_false hc55; rw [hr19] at this; exact this
          refine doC_region ?_
          refine doL_v (opV_eql rfl rfl) rfl rfl rfl ?_
          refine doL_v (opV_assign rfl) rfl rfl rfl ?_
          refine doL_nil ?_
          refine post_then ?_
          refine doC_cond rfl (fun hc55_2 => ?_) (fun hc55_2 => ?_)
          ·
            have hk5 : kindOf (srcR L (i + 2) 8) = 5 := by have := of_decide_eq_true hc55_2; rw [hr19] at this; exact this
            rw [jointOf_sl (.inr hk5)]
            first | rw [jBase_a hp hi, jQ_pos hi] | rw [jBase_b hp hi, jQ_neg hi] | rw [jBase_c hp hi, jQ_pos hi] | rw [jBase_d hp hi, jQ_neg hi]
            refine doC_region ?_
            refine doL_v (opV_move rfl) rfl rfl rfl ?_
            refine doL_srcA (F := vI) hs en30 rfl (fun w' h => srcNext _ (by first | omega | assumption | (unfold In64; omega) | decide) w' h) rfl rfl ?_; intro r59 hr59
            have br59 := srcR_b hr59 (by first | decide | omega)
            refine doL_v (opV_neg rfl (by first | exact neg_in ⟨by omega, by omega⟩ | rfl)) rfl rfl rfl ?_
            refine doL_v (opV_mul rfl rfl (by first | exact i64_in ⟨by omega, by omega⟩ | rfl)) rfl rfl rfl ?_
            refine doL_v (opV_move rfl) rfl rfl rfl ?_
            refine doL_srcA (F := vI) hs en30 rfl (fun w' h => srcNext _ (by first | omega | assumption | (unfold In64; omega) | decide) w' h) rfl rfl ?_; intro r63 hr63
            have br63 := srcR_b hr63 (by first | decide | omega)
            refine doL_v (opV_mul rfl rfl (by first | exact i64_in ⟨by omega, by omega⟩ | rfl)) rfl rfl rfl ?_
            refine doL_v (opV_fieldAddr fa70_4 rfl) rfl rfl rfl ?_
            refine doL_store 5 ty2 rfl rfl rfl rfl rfl rfl rfl rfl ?_
            refine doL_v (opV_fieldAddr fa70_5 rfl) rfl rfl rfl ?_
            refine doL_store 5 ty2 rfl rfl rfl rfl rfl rfl rfl rfl ?_
            refine doL_nil ?_
            refine post_block_normal ?_
            refine post_then ?_
            refine doC_seq ?_
            refine doC_region ?_
            refine doL_v (opV_loadA 5 ty70 rfl rfl rfl) rfl rfl rfl ?_
            refine doL_store 4 ty70 rfl rfl rfl rfl rfl rfl rfl rfl ?_
            refine doL_nil ?_
            refine post_then ?_
            refine doC_ret ?_
            refine post_rets (rs := [.cell 4 70]) rfl (resC (resIs_cell 4 rfl rfl ty70 rfl) (resN)) ?_
            subst_vars; rfl
          ·
            have hk5 : ¬ kindOf (srcR L (i + 2) 8) = 5 := by have := of_decide_eq_false hc55_2; rw [hr19] at this; exact this
            rw [jointOf_tu hk0 (by omega)]
            first | rw [jBase_a hp hi, jQ_pos hi] | rw [jBase_b hp hi, jQ_neg hi] | rw [jBase_c hp hi, jQ_pos hi] | rw [jBase_d hp hi, jQ_neg hi]
            refine doC_region ?_
            refine doL_v (opV_move rfl) rfl rfl rfl ?_
            refine doL_srcA (F := vI) hs en30 rfl (fun w' h => srcNext _ (by first | omega | assumption | (unfold In64; omega) | decide) w' h) rfl rfl ?_; intro r39 hr39
            have br39 := srcR_b hr39 (by first | decide | omega)
            refine doL_v (opV_neg rfl (by first | exact neg_in ⟨by omega, by omega⟩ | rfl)) rfl rfl rfl ?_
            refine doL_v (opV_mul rfl rfl (by first | exact i64_in ⟨by omega, by omega⟩ | rfl)) rfl rfl rfl ?_
            refine doL_v (opV_quo rfl rfl (by first | decide | omega) (quo8 (by omega))) rfl rfl rfl ?_
            refine doL_v (opV_move rfl) rfl rfl rfl ?_
            refine doL_srcA (F := vI) hs en30 rfl (fun w' h => srcNext _ (by first | omega | assumption | (unfold In64; omega) | decide) w' h) rfl rfl ?_; intro r44 hr44
            have br44 := srcR_b hr44 (by first | decide | omega)
            refine doL_v (opV_add rfl rfl (by first | exact i64_in ⟨by omega, by omega⟩ | rfl)) rfl rfl rfl ?_
            refine doL_v (opV_mul rfl rfl (by first | exact i64_in ⟨by omega, by omega⟩ | rfl)) rfl rfl rfl ?_
            refine doL_v (opV_quo rfl rfl (by first | decide | omega) (quo8 (by omega))) rfl rfl rfl ?_
            refine doL_v (opV_move rfl) rfl rfl rfl ?_
            refine doL_srcA (F := vI) hs en30 rfl (fun w' h => srcNext _ (by first | omega | assumption | (unfold In64; omega) | decide) w' h) rfl rfl ?_; intro r49 hr49
            have br49 := srcR_b hr49 (by first | decide | omega)
            refine doL_v (opV_add rfl rfl (hi8 br44 br49)) rfl rfl rfl ?_
            refine doL_v (opV_fieldAddr fa70_4 rfl) rfl rfl rfl ?_
            refine doL_store 5 ty2 rfl rfl rfl rfl rfl rfl rfl rfl ?_
            refine doL_v (opV_fieldAddr fa70_5 rfl) rfl rfl rfl ?_
            refine doL_store 5 ty2 rfl rfl rfl rfl rfl rfl rfl rfl ?_
            refine doL_nil ?_
            refine post_block_normal ?_
            refine post_then ?_
            refine doC_seq ?_
            refine doC_region ?_
            refine doL_v (opV_loadA 5 ty70 rfl rfl rfl) rfl rfl rfl ?_
            refine doL_store 4 ty70 rfl rfl rfl rfl rfl rfl rfl rfl ?_
            refine doL_nil ?_
            refine post_then ?_
            refine doC_ret ?_
            refine post_rets (rs := [.cell 4 70]) rfl (resC (resIs_cell 4 rfl rfl ty70 rfl) (resN)) ?_
            subst_vars; rfl
end Go.Proofs.Ytonampcmhhhffaa
namespace Go.Proofs.Ytonampcmhhhffaa
open Go.Sx
theorem ze74 : zeroIs Try.prog 74 (.agg #[.slice none 0 0, .slice none 0 0]) := by unfold zeroIs; kernel_rfl
theorem fa74_0 : fieldB Try.prog 74 0 0 = true := by kernel_rfl
theorem ty71 : tyB Try.prog 71 false 1 = true := by kernel_rfl
theorem en128 : Enters Try.prog 128 := enters_of Try.func128 (by kernel_rfl) (by kernel_rfl)
theorem sl71 : slcB Try.prog 71 70 12 = true := by kernel_rfl
theorem app71 : appB Try.prog 71 70 12 104 = true := by kernel_rfl
theorem fa74_1 : fieldB Try.prog 74 1 1 = true := by kernel_rfl
theorem ty72 : tyB Try.prog 72 false 1 = true := by kernel_rfl
theorem la138 : layoutOf Try.prog 138 = some ([.int .i64 0, .int .i64 0, .int .i64 0, .int .i64 0, .int .i64 0], [(0, 1), (1, 1), (2, 3)]) := by kernel_rfl
theorem sl72 : slcB Try.prog 72 138 5 = true := by kernel_rfl
theorem ze138 : zeroIs Try.prog 138 (.agg #[.int .i64 0, .int .i64 0, .int .i64 0, .int .i64 0, .int .i64 0]) := by unfold zeroIs; kernel_rfl
theorem app72 : appB Try.prog 72 138 5 40 = true := by kernel_rfl
theorem ty74 : tyB Try.prog 74 true 2 = true := by kernel_rfl
theorem inc_nat {k : Nat} (h : k ≤ 1000000) : IntKind.i64.wrap ((k : Int) + 1) = ((k + 1 : Nat) : Int) := by
  refine (i64_in ?_).trans ?_ <;> omega
theorem dec_rem {n k : Nat} (hn : n ≤ 1000) (h : k < n) : IntKind.i64.wrap (((n - k : Nat) : Int) - 1) = ((n - (k + 1) : Nat) : Int) := by
  refine (i64_in ?_).trans ?_ <;> omega
theorem mkRobot {b : Nat} {sl : Value} {L : List Int} {i : Nat} (w : World) (hs : Src w b sl L i) : Calls Try.prog 98 [.pointer (some ⟨b, 0, none⟩)].toArray w (RetsF (X := (Option Addr × Nat) × (Option Addr × Nat)) (fun _ => True) (fun x => .agg #[.slice x.1.1 (nJ L i) x.1.2, .slice x.2.1 (nM L i) x.2.2]) (fun x w => SlcIs 12 x.1.1 ((jsOf L i (nJ L i)).1.map jc) w ∧ SlcIs 5 x.2.1 ((msOf L i (nM L i)).map mc) w) (srcW w b sl L (robQ L i))) := by
  refine calls_src (n := 49) hs Try.func98 rfl rfl rfl ?_
  refine doC_seq ?_
  refine doC_region ?_
  refine doL_alloc 2 ze74 rfl rfl rfl ?_; intro b2
  refine doL_nil ?_
  refine post_then ?_
  refine doC_seq ?_
  refine doC_region ?_
  refine doL_alloc 3 ze74 rfl rfl rfl ?_; intro b3
  refine doL_nil ?_
  refine post_then ?_
  refine doC_seq ?_
  refine doC_ownA 100 70 12 ?_
  refine doC_ownA 101 138 5 ?_
  have hn := nJ_b L i
  have hm := nM_b L i
  refine doC_region ?_
  refine doL_v (opV_move rfl) rfl rfl rfl ?_
  refine doL_srcA (F := vI) hs en30 rfl (fun w' h => srcNext _ (by first | omega | assumption | (unfold In64; omega) | decide) w' h) rfl rfl ?_; intro r8 hr8
  have br8 := srcR_b hr8 (by first | decide | omega)
  refine doL_v (opV_add rfl rfl (by first | exact i64_in ⟨by omega, by omega⟩ | rfl)) rfl rfl rfl ?_
  refine doL_v (opV_assign rfl) rfl rfl rfl ?_
  refine doL_nil ?_
  refine post_then ?_
  refine doC_seq ?_
  refine doC_seq ?_
  refine doC_region ?_
  refine doL_v (opV_assign rfl) rfl rfl rfl ?_
  refine doL_nil ?_
  refine post_then ?_
  refine doC_block ?_
  refine doC_loopK [0, 2, 3, 4] [2] (α := Nat × Option Addr × Nat) (fun x => nJ L i - x.1) (fun x => x.1 ≤ nJ L i) (fun x => srcB ⟨w, [(101, ownD none, OwnF 0 138 5 none 0 0 []), (100, ownD x.2.1, OwnF 0 70 12 x.2.1 x.2.2 x.1 (jsC L i x.1))]⟩ b sl L (jsOf L i x.1).2) (fun x => [(5, .int .i64 (x.1 : Int))]) (fun x => [(3, b3, [.slice x.2.1 x.1 x.2.2, .slice none 0 0], 74)]) (0, none, 0) rfl rfl ?_ ?_ ?_ ?_ rfl ?_
  ·
    exact Nat.zero_le _
  ·
    exact rfl
  ·
    repeat' first | exact trivial | exact True.intro | refine ⟨rfl, ?_⟩
  ·
    repeat' first | exact trivial | exact True.intro | refine ⟨rfl, ?_⟩
  rintro ⟨k, a, cap⟩ hk
  dsimp only at hk ⊢
  refine doC_seq ?_
  refine doC_seq ?_
  refine doC_region ?_
  refine doL_v (opV_move rfl) rfl rfl rfl ?_
  refine doL_v (opV_move rfl) rfl rfl rfl ?_
  refine doL_v (opV_lss rfl rfl) rfl rfl rfl ?_
  refine doL_nil ?_
  refine post_then ?_
  refine doC_cond rfl (fun hc12 => ?_) (fun hc12 => ?_)
  ·
    have h2 : k < nJ L i := by have := of_decide_eq_true hc12; omega
    refine doC_skip ?_
    refine post_then ?_
    refine doC_seq ?_
    refine doC_block ?_
    refine doC_srcA 6 [4] hs mo (by kernel_rfl) ?_
    simp only [List.take_succ_cons, List.take_zero, List.drop_succ_cons, List.drop_zero]
    refine doM_v (fun _ => opV_fieldAddr fa74_0 rfl) rfl rfl rfl rfl ?_
    refine doM_v (fun _ => opV_load1 3 ty71 rfl rfl rfl) rfl rfl rfl rfl ?_
    refine doM_v (fun _ => opV_move rfl) rfl rfl rfl rfl ?_
    refine doM_v (fun _ => opV_move rfl) rfl rfl rfl rfl ?_
    refine doM_srcA (F := jv) hs en128 rfl (fun w' h => mkJoint _ (by first | omega | assumption | (unfold In64; omega) | decide) w' h) rfl rfl rfl ?_; intro r19 hr19
    refine doM_bslice (famA hs _) sl71 ze70 rfl rfl rfl rfl rfl rfl rfl rfl rfl rfl ?_
    refine doM_nil ?_
    refine tail_row ?_; intro bb20
    refine tail_appendA 100 app71 rfl rfl rfl rfl rfl rfl (by omega) (by omega) rfl rfl ?_; intro a21 c21 R21 hR21
    obtain rfl := Option.some.inj hR21
    refine doL_v (opV_fieldAddr fa74_0 rfl) rfl rfl rfl ?_
    refine doL_store 3 ty71 rfl rfl rfl rfl rfl rfl rfl rfl ?_
    refine doL_nil ?_
    refine post_block_normal ?_
    refine post_then ?_
    refine doC_region ?_
    refine doL_v (opV_move rfl) rfl rfl rfl ?_
    refine doL_v (opV_add rfl rfl (inc_nat (by omega))) rfl rfl rfl ?_
    refine doL_v (opV_assign rfl) rfl rfl rfl ?_
    refine doL_nil ?_
    refine post_again (k + 1, a21, c21) (by show k + 1 ≤ _; omega) (by show nJ L i - (k + 1) < nJ L i - k; omega) (by dsimp only; rw [jsC_succ, ← hr19]; rfl) ?_ ?_ rfl
    repeat' first | exact trivial | exact True.intro | refine ⟨rfl, ?_⟩
  ·
    obtain rfl : k = nJ L i := by have := of_decide_eq_false hc12; omega
    refine doC_exit ?_
    refine post_then_exit ?_
    refine post_then_exit ?_
    refine post_block_exit ?_
    refine post_then ?_
    refine doC_seq ?_
    refine doC_seq ?_
    refine doC_region ?_
    refine doL_v (opV_move rfl) rfl rfl rfl ?_
    refine doL_srcA (F := vI) hs en30 rfl (fun w' h => srcNext _ (by first | omega | assumption | (unfold In64; omega) | decide) w' h) rfl rfl ?_; intro r24 hr24
    have br24 := srcR_b hr24 (by first | decide | omega)
    obtain rfl : r24 = ((nM L i : Nat) : Int) := by rw [hr24]; exact hm.2.symm
    refine doL_v (opV_assign rfl) rfl rfl rfl ?_
    refine doL_nil ?_
    refine post_then ?_
    refine doC_block ?_
    refine doC_loopK [0, 2, 3, 4] [2] (α := Nat × Option Addr × Nat) (fun x => nM L i - x.1) (fun x => x.1 ≤ nM L i) (fun x => srcB ⟨w, [(101, ownD x.2.1, OwnF 0 138 5 x.2.1 x.2.2 x.1 (msC L i x.1)), (100, ownD a, OwnF 0 70 12 a cap (nJ L i) (jsC L i (nJ L i)))]⟩ b sl L (mQ L i + 1 + 4 * x.1)) (fun x => [(6, .int .i64 ((nM L i - x.1 : Nat) : Int))]) (fun x => [(3, b3, [.slice a (nJ L i) cap, .slice x.2.1 x.1 x.2.2], 74)]) (0, none, 0) rfl rfl ?_ ?_ ?_ ?_ rfl ?_
    ·
      exact Nat.zero_le _
    ·
      exact rfl
    ·
      repeat' first | exact trivial | exact True.intro | refine ⟨rfl, ?_⟩
    ·
      repeat' first | exact trivial | exact True.intro | refine ⟨rfl, ?_⟩
    rintro ⟨k2, a2, cap2⟩ hk2
    dsimp only at hk2 ⊢
    refine doC_seq ?_
    refine doC_seq ?_
    refine doC_region ?_
    refine doL_v (opV_move rfl) rfl rfl rfl ?_
    refine doL_v (opV_gtr rfl rfl) rfl rfl rfl ?_
    refine doL_nil ?_
    refine post_then ?_
    refine doC_cond rfl (fun hc26 => ?_) (fun hc26 => ?_)
    ·
      have h3 : k2 < nM L i := by have := of_decide_eq_true hc26; omega
      refine doC_skip ?_
      refine post_then ?_
      refine doC_seq ?_
      refine doC_block ?_
      refine doC_srcA 17 [4, 6, 9, 12] hs mo (by kernel_rfl) ?_
      simp only [List.take_succ_cons, List.take_zero, List.drop_succ_cons, List.drop_zero]
      refine doM_v (fun _ => opV_fieldAddr fa74_1 rfl) rfl rfl rfl rfl ?_
      refine doM_v (fun _ => opV_load1 3 ty72 rfl rfl rfl) rfl rfl rfl rfl ?_
      refine doM_v (fun _ => opV_move rfl) rfl rfl rfl rfl ?_
      refine doM_v (fun _ => opV_move rfl) rfl rfl rfl rfl ?_
      refine doM_srcA (F := vI) hs en30 rfl (fun w' h => srcNext _ (by first | omega | assumption | (unfold In64; omega) | decide) w' h) rfl rfl rfl ?_; intro r33 hr33
      have br33 := srcR_b hr33 (by first | decide | omega)
      refine doM_v (fun _ => opV_move rfl) rfl rfl rfl rfl ?_
      refine doM_srcA (F := vI) hs en30 rfl (fun w' h => srcNext _ (by first | omega | assumption | (unfold In64; omega) | decide) w' h) rfl rfl rfl ?_; intro r35 hr35
      have br35 := srcR_b hr35 (by first | decide | omega)
      refine doM_v (fun _ => opV_add rfl rfl (by first | exact i64_in ⟨by omega, by omega⟩ | rfl)) rfl rfl rfl rfl ?_
      refine doM_v (fun _ => opV_move rfl) rfl rfl rfl rfl ?_
      refine doM_srcA (F := vI) hs en28 rfl (fun w' h => srcSigned _ (by first | omega | assumption | (unfold In64; omega) | decide) w' h) rfl rfl rfl ?_; intro r38 hr38
      have br38 := srcS_b hr38 (by first | decide | omega)
      refine doM_v (fun _ => opV_mul rfl rfl (by first | exact i64_in ⟨by omega, by omega⟩ | rfl)) rfl rfl rfl rfl ?_
      refine doM_v (fun _ => opV_move rfl) rfl rfl rfl rfl ?_
      refine doM_srcA (F := vI) hs en28 rfl (fun w' h => srcSigned _ (by first | omega | assumption | (unfold In64; omega) | decide) w' h) rfl rfl rfl ?_; intro r41 hr41
      have br41 := srcS_b hr41 (by first | decide | omega)
      refine doM_v (fun _ => opV_mul rfl rfl (by first | exact i64_in ⟨by omega, by omega⟩ | rfl)) rfl rfl rfl rfl ?_
      refine doM_v (fun _ => opV_build la38 rfl rfl) rfl rfl rfl rfl ?_
      refine doM_v (fun _ => opV_build la138 rfl rfl) rfl rfl rfl rfl ?_
      refine doM_bslice (famA hs _) sl72 ze138 rfl rfl rfl rfl rfl rfl rfl rfl rfl rfl ?_
      refine doM_nil ?_
      refine tail_row ?_; intro bb45
      refine tail_appendA 101 app72 rfl rfl rfl rfl rfl rfl (by omega) (by omega) rfl rfl ?_; intro a46 c46 R46 hR46
      obtain rfl := Option.some.inj hR46
      refine doL_v (opV_fieldAddr fa74_1 rfl) rfl rfl rfl ?_
      refine doL_store 3 ty72 rfl rfl rfl rfl rfl rfl rfl rfl ?_
      refine doL_nil ?_
      refine post_block_normal ?_
      refine post_then ?_
      refine doC_region ?_
      refine doL_v (opV_move rfl) rfl rfl rfl ?_
      refine doL_v (opV_sub rfl rfl (dec_rem (by omega) h3)) rfl rfl rfl ?_
      refine doL_v (opV_assign rfl) rfl rfl rfl ?_
      refine doL_nil ?_
      refine post_again (k2 + 1, a46, c46) (by show k2 + 1 ≤ _; omega) (by show nM L i - (k2 + 1) < nM L i - k2; omega) (by dsimp only; rw [msC_succ, hr33, hr35, hr38, hr41, hr8, hn.2.2]; rfl) ?_ ?_ rfl
      repeat' first | exact trivial | exact True.intro | refine ⟨rfl, ?_⟩
    ·
      obtain rfl : k2 = nM L i := by have := of_decide_eq_false hc26; omega
      refine doC_exit ?_
      refine post_then_exit ?_
      refine post_then_exit ?_
      refine post_block_exit ?_
      refine post_then ?_
      refine doC_seq ?_
      refine doC_region ?_
      refine doL_v (opV_loadA 3 ty74 rfl rfl rfl) rfl rfl rfl ?_
      refine doL_store 2 ty74 rfl rfl rfl rfl rfl rfl rfl rfl ?_
      refine doL_nil ?_
      refine post_then ?_
      refine doC_ret ?_
      refine post_ret (rs := [.cell 2 74]) rfl (resC (resIs_cell 2 rfl rfl ty74 rfl) (resN)) rfl ?_
      intro w2 kn
      obtain ⟨_, q2, q3⟩ := kn.facts _ List.mem_cons_self
      obtain ⟨_, q5, q6⟩ := kn.facts _ (List.mem_cons_of_mem _ List.mem_cons_self)
      exact ⟨((a, cap), (a2, cap2)), trivial, rfl, kn.grow, told_and ⟨ownD a, slc_dep _ _ _, fun q hq => ⟨(q5 q hq).1, (q5 q hq).2.1⟩, js_slc q6⟩ ⟨ownD a2, slc_dep _ _ _, fun q hq => ⟨(q2 q hq).1, (q2 q hq).2.1⟩, ms_slc q3⟩⟩
end Go.Proofs.Ytonampcmhhhffaa
namespace Go.Proofs.Ytonampcmhhhffaa
open Go.Sx
theorem en26 : Enters Try.prog 26 := enters_of Try.func26 (by kernel_rfl) (by kernel_rfl)
theorem sl80 : slcB Try.prog 80 23 2 = true := by kernel_rfl
theorem app80 : appB Try.prog 80 23 2 16 = true := by kernel_rfl
theorem mkBox (lv : Value) (l : List Int) (aj am : Option Addr) (cj nm cm : Nat) (js : List J) (hn : js.length ≤ 1000) (hjs : ∀ j ∈ js, JB j) (w : World) (hl : IntsAt w w.heap.size lv l) (hS : SlcIs 12 aj (js.map jc) w) : Calls Try.prog 57 [.agg #[.slice aj js.length cj, .slice am nm cm], lv].toArray w (RetsF (X := Option Addr × Nat) (fun _ => True) (fun x => .slice x.1 js.length x.2) (fun x => SlcIs 2 x.1 ((bxs l js js.length).1.map ivc)) w) := by
  refine calls_of_doC (n := 68) Try.func57 rfl rfl rfl ?_
  refine doC_seq ?_
  refine doC_region ?_
  refine doL_box 2 rfl rfl rfl rfl ?_; intro b2
  refine doL_v (opV_assign rfl) rfl rfl rfl ?_
  refine doL_nil ?_
  refine post_then ?_
  refine doC_seq ?_
  refine doC_region ?_
  refine doL_v (opV_move rfl) rfl rfl rfl ?_
  refine doL_callNew 13 en26 rfl (fun w' k => mFrom w' (intsAt_grow hl k.grow (Nat.le_refl _))) rfl rfl ?_; intro b13
  refine doL_v (opV_assign rfl) rfl rfl rfl ?_
  refine doL_nil ?_
  refine post_then ?_
  refine doC_seq ?_
  refine doC_region ?_
  refine doL_v (opV_assign rfl) rfl rfl rfl ?_
  refine doL_nil ?_
  refine post_then ?_
  refine doC_seq ?_
  refine doC_seq ?_
  refine doC_own 100 23 2 ?_
  refine doC_region ?_
  refine doL_v (opV_assign rfl) rfl rfl rfl ?_
  refine doL_nil ?_
  refine post_then ?_
  refine doC_block ?_
  refine doC_loopK [2, 5] [2] (α := Nat × Nat × Option Addr × Nat × List Iv) (fun x => js.length - x.1) (fun x => x.1 ≤ js.length ∧ bxs l js x.1 = (x.2.2.2.2, x.2.1) ∧ x.2.2.2.2.length = x.1) (fun x => ⟨w, [(100, ownD x.2.2.1, OwnF 0 23 2 x.2.2.1 x.2.2.2.1 x.1 (ivC x.2.2.2.2))]⟩) (fun x => [(6, .slice x.2.2.1 x.1 x.2.2.2.1), (7, .int .i64 (x.1 : Int))]) (fun x => [(13, b13, srcC lv l x.2.1, 105)]) (0, 0, none, 0, []) rfl rfl ?_ ?_ ?_ ?_ rfl ?_
  ·
    exact ⟨Nat.zero_le _, rfl, rfl⟩
  ·
    exact rfl
  ·
    repeat' first | exact trivial | exact True.intro | refine ⟨rfl, ?_⟩
  ·
    repeat' first | exact trivial | exact True.intro | refine ⟨rfl, ?_⟩
  rintro ⟨k, q, a, cap, rows⟩ ⟨hk, hsh, hlen⟩
  dsimp only at hk hsh hlen ⊢
  refine doC_seq ?_
  refine doC_seq ?_
  refine doC_region ?_
  refine doL_v (opV_move rfl) rfl rfl rfl ?_
  refine doL_v (opV_fieldAddr fa74_0 rfl) rfl rfl rfl ?_
  refine doL_v (opV_load1 2 ty71 rfl rfl rfl) rfl rfl rfl ?_
  refine doL_v (opV_len_slice sl71 rfl) rfl rfl rfl ?_
  refine doL_v (opV_lss rfl rfl) rfl rfl rfl ?_
  refine doL_nil ?_
  refine post_then ?_
  refine doC_cond rfl (fun hc18 => ?_) (fun hc18 => ?_)
  ·
    have h2 : k < js.length := by have := of_decide_eq_true hc18; omega
    obtain ⟨j, hjk⟩ : ∃ j, js[k]? = some j := ⟨_, List.getElem?_eq_getElem h2⟩
    have hj : (js.map jc)[k]? = some (jc j) := by rw [List.getElem?_map, hjk]; rfl
    obtain ⟨bj1, bj2, bj3⟩ := hjs j (List.mem_of_getElem? hjk)
    refine doC_skip ?_
    refine post_then ?_
    refine doC_seq ?_
    refine doC_block ?_
    refine doC_seq ?_
    refine doC_all mo (by kernel_rfl) ?_
    refine doG_v (opV_fieldAddr fa74_0 rfl) rfl rfl rfl ?_
    refine doG_v (opV_load1 2 ty71 rfl rfl rfl) rfl rfl rfl ?_
    refine doG_v (opV_move rfl) rfl rfl rfl ?_
    refine doG_v (opV_indexS (e := 70) (holds_base hS) (by kernel_rfl) rfl rfl rfl hj h2) rfl rfl rfl ?_
    refine doG_v (opV_fieldS (holds_base hS) hj fa70_4 rfl) rfl rfl rfl ?_
    refine doG_v (opV_loadS1 k 6 (holds_base hS) hj ty2 rfl rfl) rfl rfl rfl ?_
    refine doG_v (opV_fieldAddr fa74_0 rfl) rfl rfl rfl ?_
    refine doG_v (opV_load1 2 ty71 rfl rfl rfl) rfl rfl rfl ?_
    refine doG_v (opV_move rfl) rfl rfl rfl ?_
    refine doG_v (opV_indexS (e := 70) (holds_base hS) (by kernel_rfl) rfl rfl rfl hj h2) rfl rfl rfl ?_
    refine doG_v (opV_fieldS (holds_base hS) hj fa70_5 rfl) rfl rfl rfl ?_
    refine doG_v (opV_loadS1 k 7 (holds_base hS) hj ty2 rfl rfl) rfl rfl rfl ?_
    refine doG_v (opV_assign rfl) rfl rfl rfl ?_
    refine doG_v (opV_assign rfl) rfl rfl rfl ?_
    refine doG_nil ?_
    refine post_then ?_
    refine doC_seq ?_
    refine doC_region ?_
    refine doL_v (opV_move rfl) rfl rfl rfl ?_
    refine doL_v (opV_move rfl) rfl rfl rfl ?_
    refine doL_v (opV_move rfl) rfl rfl rfl ?_
    refine doL_v (opV_move rfl) rfl rfl rfl ?_
    refine doL_v (opV_sub rfl rfl (by first | exact i64_in ⟨by omega, by omega⟩ | rfl)) rfl rfl rfl ?_
    refine doL_v (opV_add rfl rfl (by first | exact i64_in ⟨by omega, by omega⟩ | rfl)) rfl rfl rfl ?_
    refine doL_srcB (F := vI) 13 hl rfl en30 rfl (fun w' h => srcNext _ (by first | omega | assumption | (unfold In64; omega) | decide) w' h) rfl rfl rfl ?_; intro r39 hr39
    have br39 := srcR_b hr39 (by first | decide | omega)
    refine doL_v (opV_add rfl rfl (by first | exact i64_in ⟨by omega, by omega⟩ | rfl)) rfl rfl rfl ?_
    refine doL_v (opV_assign rfl) rfl rfl rfl ?_
    refine doL_nil ?_
    refine post_then ?_
    refine doC_seq ?_
    refine doC_region ?_
    refine doL_v (opV_assign rfl) rfl rfl rfl ?_
    refine doL_nil ?_
    refine post_then ?_
    refine doC_seq ?_
    refine doC_seq ?_
    refine doC_region ?_
    refine doL_v (opV_move rfl) rfl rfl rfl ?_
    refine doL_srcB (F := vI) 13 hl rfl en30 rfl (fun w' h => srcNext _ (by first | omega | assumption | (unfold In64; omega) | decide) w' h) rfl rfl rfl ?_; intro r42 hr42
    have br42 := srcR_b hr42 (by first | decide | omega)
    refine doL_nil ?_
    refine post_then ?_
    refine doC_block ?_
    refine doC_seq ?_
    refine doC_region ?_
    refine doL_v (opV_eql rfl rfl) rfl rfl rfl ?_
    refine doL_v (opV_assign rfl) rfl rfl rfl ?_
    refine doL_nil ?_
    refine post_then ?_
    refine doC_cond rfl (fun hc43 => ?_) (fun hc43 => ?_)
    ·
      refine doC_region ?_
      refine doL_v (opV_move rfl) rfl rfl rfl ?_
      refine doL_v (opV_move rfl) rfl rfl rfl ?_
      refine doL_v (opV_sub rfl rfl (by first | exact i64_in ⟨by omega, by omega⟩ | rfl)) rfl rfl rfl ?_
      refine doL_v (opV_assign rfl) rfl rfl rfl ?_
      refine doL_nil ?_
      refine post_block_normal ?_
      refine post_then ?_
      refine doC_region ?_
      refine doL_v (opV_move rfl) rfl rfl rfl ?_
      refine doL_v (opV_move rfl) rfl rfl rfl ?_
      refine doL_v (opV_move rfl) rfl rfl rfl ?_
      refine doL_v (opV_move rfl) rfl rfl rfl ?_
      refine doL_v (opV_move rfl) rfl rfl rfl ?_
      refine doL_v (opV_add rfl rfl (by first | exact i64_in ⟨by omega, by omega⟩ | rfl)) rfl rfl rfl ?_
      refine doL_v (opV_min2 rfl rfl) rfl rfl rfl ?_
      refine doL_v (opV_build la23 rfl rfl) rfl rfl rfl ?_
      refine doL_bslice 65 sl80 ze23 rfl rfl rfl rfl rfl rfl rfl rfl ?_; intro b65
      refine doL_append (id2 := 65) 100 app80 rfl rfl rfl rfl rfl rfl rfl (by omega) (by omega) rfl rfl ?_; intro a66 c66 R66 hR66
      obtain rfl := Option.some.inj hR66
      refine doL_v (opV_assign rfl) rfl rfl rfl ?_
      refine doL_nil ?_
      refine post_block_normal ?_
      refine post_then ?_
      refine doC_region ?_
      refine doL_v (opV_move rfl) rfl rfl rfl ?_
      refine doL_v (opV_add rfl rfl (inc_nat (by omega))) rfl rfl rfl ?_
      refine doL_v (opV_assign rfl) rfl rfl rfl ?_
      refine doL_nil ?_
      refine post_again (k + 1, q + 1 + 1, a66, c66, rows ++ [⟨j.lo + r39, min j.hi (j.lo + r39 + (j.hi - j.lo))⟩]) (by refine ⟨?_, ?_, ?_⟩ <;> dsimp only; omega; exact bx_step hjk hsh hr39 (bxW_0 hr42 (of_decide_eq_true hc43)); simp [hlen]) (by show js.length - (k + 1) < js.length - k; omega) (by dsimp only; rw [ivC_snoc]; rfl) ?_ ?_ rfl
      repeat' first | exact trivial | exact True.intro | refine ⟨rfl, ?_⟩
    ·
      refine doC_seq ?_
      refine doC_seq ?_
      refine doC_region ?_
      refine doL_v (opV_eql rfl rfl) rfl rfl rfl ?_
      refine doL_v (opV_assign rfl) rfl rfl rfl ?_
      refine doL_nil ?_
      refine post_then ?_
      refine doC_cond rfl (fun hc48 => ?_) (fun hc48 => ?_)
      ·
        refine doC_skip ?_
        refine post_then ?_
        refine doC_cond_t rfl (hc48) ?_
        refine doC_region ?_
        refine doL_v (opV_move rfl) rfl rfl rfl ?_
        refine doL_srcB (F := vI) 13 hl rfl en30 rfl (fun w' h => srcNext _ (by first | omega | assumption | (unfold In64; omega) | decide) w' h) rfl rfl rfl ?_; intro r52 hr52
        have br52 := srcR_b hr52 (by first | decide | omega)
        refine doL_v (opV_assign rfl) rfl rfl rfl ?_
        refine doL_nil ?_
        refine post_block_normal ?_
        refine post_then ?_
        refine doC_region ?_
        refine doL_v (opV_move rfl) rfl rfl rfl ?_
        refine doL_v (opV_move rfl) rfl rfl rfl ?_
        refine doL_v (opV_move rfl) rfl rfl rfl ?_
        refine doL_v (opV_move rfl) rfl rfl rfl ?_
        refine doL_v (opV_move rfl) rfl rfl rfl ?_
        refine doL_v (opV_add rfl rfl (by first | exact i64_in ⟨by omega, by omega⟩ | rfl)) rfl rfl rfl ?_
        refine doL_v (opV_min2 rfl rfl) rfl rfl rfl ?_
        refine doL_v (opV_build la23 rfl rfl) rfl rfl rfl ?_
        refine doL_bslice 65 sl80 ze23 rfl rfl rfl rfl rfl rfl rfl rfl ?_; intro b65
        refine doL_append (id2 := 65) 100 app80 rfl rfl rfl rfl rfl rfl rfl (by omega) (by omega) rfl rfl ?_; intro a66 c66 R66 hR66
        obtain rfl := Option.some.inj hR66
        refine doL_v (opV_assign rfl) rfl rfl rfl ?_
        refine doL_nil ?_
        refine post_block_normal ?_
        refine post_then ?_
        refine doC_region ?_
        refine doL_v (opV_move rfl) rfl rfl rfl ?_
        refine doL_v (opV_add rfl rfl (inc_nat (by omega))) rfl rfl rfl ?_
        refine doL_v (opV_assign rfl) rfl rfl rfl ?_
        refine doL_nil ?_
        refine post_again (k + 1, q + 1 + 1 + 1, a66, c66, rows ++ [⟨j.lo + r39, min j.hi (j.lo + r39 + r52)⟩]) (by refine ⟨?_, ?_, ?_⟩ <;> dsimp only; omega; exact bx_step hjk hsh hr39 (bxW_1 hr42 (.inl (of_decide_eq_true hc48)) hr52); simp [hlen]) (by show js.length - (k + 1) < js.length - k; omega) (by dsimp only; rw [ivC_snoc]; rfl) ?_ ?_ rfl
        repeat' first | exact trivial | exact True.intro | refine ⟨rfl, ?_⟩
      ·
        refine doC_region ?_
        refine doL_v (opV_eql rfl rfl) rfl rfl rfl ?_
        refine doL_v (opV_assign rfl) rfl rfl rfl ?_
        refine doL_nil ?_
        refine post_then ?_
        refine doC_cond rfl (fun hc48_2 => ?_) (fun hc48_2 => ?_)
        ·
          refine doC_region ?_
          refine doL_v (opV_move rfl) rfl rfl rfl ?_
          refine doL_srcB (F := vI) 13 hl rfl en30 rfl (fun w' h => srcNext _ (by first | omega | assumption | (unfold In64; omega) | decide) w' h) rfl rfl rfl ?_; intro r52 hr52
          have br52 := srcR_b hr52 (by first | decide | omega)
          refine doL_v (opV_assign rfl) rfl rfl rfl ?_
          refine doL_nil ?_
          refine post_block_normal ?_
          refine post_then ?_
          refine doC_region ?_
          refine doL_v (opV_move rfl) rfl rfl rfl ?_
          refine doL_v (opV_move rfl) rfl rfl rfl ?_
          refine doL_v (opV_move rfl) rfl rfl rfl ?_
          refine doL_v (opV_move rfl) rfl rfl rfl ?_
          refine doL_v (opV_move rfl) rfl rfl rfl ?_
          refine doL_v (opV_add rfl rfl (by first | exact i64_in ⟨by omega, by omega⟩ | rfl)) rfl rfl rfl ?_
          refine doL_v (opV_min2 rfl rfl) rfl rfl rfl ?_
          refine doL_v (opV_build la23 rfl rfl) rfl rfl rfl ?_
          refine doL_bslice 65 sl80 ze23 rfl rfl rfl rfl rfl rfl rfl rfl ?_; intro b65
          refine doL_append (id2 := 65) 100 app80 rfl rfl rfl rfl rfl rfl rfl (by omega) (by omega) rfl rfl ?_; intro a66 c66 R66 hR66
          obtain rfl := Option.some.inj hR66
          refine doL_v (opV_assign rfl) rfl rfl rfl ?_
          refine doL_nil ?_
          refine post_block_normal ?_
          refine post_then ?_
          refine doC_region ?_
          refine doL_v (opV_move rfl) rfl rfl rfl ?_
          refine doL_v (opV_add rfl rfl (inc_nat (by omega))) rfl rfl rfl ?_
          refine doL_v (opV_assign rfl) rfl rfl rfl ?_
          refine doL_nil ?_
          refine post_again (k + 1, q + 1 + 1 + 1, a66, c66, rows ++ [⟨j.lo + r39, min j.hi (j.lo + r39 + r52)⟩]) (by refine ⟨?_, ?_, ?_⟩ <;> dsimp only; omega; exact bx_step hjk hsh hr39 (bxW_1 hr42 (.inr (of_decide_eq_true hc48_2)) hr52); simp [hlen]) (by show js.length - (k + 1) < js.length - k; omega) (by dsimp only; rw [ivC_snoc]; rfl) ?_ ?_ rfl
          repeat' first | exact trivial | exact True.intro | refine ⟨rfl, ?_⟩
        ·
          refine doC_seq ?_
          refine doC_region ?_
          refine doL_v (opV_eql rfl rfl) rfl rfl rfl ?_
          refine doL_v (opV_assign rfl) rfl rfl rfl ?_
          refine doL_nil ?_
          refine post_then ?_
          refine doC_cond rfl (fun hc53 => ?_) (fun hc53 => ?_)
          ·
            refine doC_region ?_
            refine doL_v (opV_move rfl) rfl rfl rfl ?_
            refine doL_srcB (F := vI) 13 hl rfl en30 rfl (fun w' h => srcNext _ (by first | omega | assumption | (unfold In64; omega) | decide) w' h) rfl rfl rfl ?_; intro r56 hr56
            have br56 := srcR_b hr56 (by first | decide | omega)
            refine doL_v (opV_assign rfl) rfl rfl rfl ?_
            refine doL_nil ?_
            refine post_block_normal ?_
            refine post_then ?_
            refine doC_region ?_
            refine doL_v (opV_move rfl) rfl rfl rfl ?_
            refine doL_v (opV_move rfl) rfl rfl rfl ?_
            refine doL_v (opV_move rfl) rfl rfl rfl ?_
            refine doL_v (opV_move rfl) rfl rfl rfl ?_
            refine doL_v (opV_move rfl) rfl rfl rfl ?_
            refine doL_v (opV_add rfl rfl (by first | exact i64_in ⟨by omega, by omega⟩ | rfl)) rfl rfl rfl ?_
            refine doL_v (opV_min2 rfl rfl) rfl rfl rfl ?_
            refine doL_v (opV_build la23 rfl rfl) rfl rfl rfl ?_
            refine doL_bslice 65 sl80 ze23 rfl rfl rfl rfl rfl rfl rfl rfl ?_; intro b65
            refine doL_append (id2 := 65) 100 app80 rfl rfl rfl rfl rfl rfl rfl (by omega) (by omega) rfl rfl ?_; intro a66 c66 R66 hR66
            obtain rfl := Option.some.inj hR66
            refine doL_v (opV_assign rfl) rfl rfl rfl ?_
            refine doL_nil ?_
            refine post_block_normal ?_
            refine post_then ?_
            refine doC_region ?_
            refine doL_v (opV_move rfl) rfl rfl rfl ?_
            refine doL_v (opV_add rfl rfl (inc_nat (by omega))) rfl rfl rfl ?_
            refine doL_v (opV_assign rfl) rfl rfl rfl ?_
            refine doL_nil ?_
            refine post_again (k + 1, q + 1 + 1 + 1, a66, c66, rows ++ [⟨j.lo + r39, min j.hi (j.lo + r39 + r56)⟩]) (by refine ⟨?_, ?_, ?_⟩ <;> dsimp only; omega; exact bx_step hjk hsh hr39 (bxW_3 hr42 (of_decide_eq_true hc53) hr56); simp [hlen]) (by show js.length - (k + 1) < js.length - k; omega) (by dsimp only; rw [ivC_snoc]; rfl) ?_ ?_ rfl
            repeat' first | exact trivial | exact True.intro | refine ⟨rfl, ?_⟩
          ·
            refine doC_skip ?_
            refine post_block_normal ?_
            refine post_then ?_
            refine doC_region ?_
            refine doL_v (opV_move rfl) rfl rfl rfl ?_
            refine doL_v (opV_move rfl) rfl rfl rfl ?_
            refine doL_v (opV_move rfl) rfl rfl rfl ?_
            refine doL_v (opV_move rfl) rfl rfl rfl ?_
            refine doL_v (opV_move rfl) rfl rfl rfl ?_
            refine doL_v (opV_add rfl rfl (by first | exact i64_in ⟨by omega, by omega⟩ | rfl)) rfl rfl rfl ?_
            refine doL_v (opV_min2 rfl rfl) rfl rfl rfl ?_
            refine doL_v (opV_build la23 rfl rfl) rfl rfl rfl ?_
            refine doL_bslice 65 sl80 ze23 rfl rfl rfl rfl rfl rfl rfl rfl ?_; intro b65
            refine doL_append (id2 := 65) 100 app80 rfl rfl rfl rfl rfl rfl rfl (by omega) (by omega) rfl rfl ?_; intro a66 c66 R66 hR66
            obtain rfl := Option.some.inj hR66
            refine doL_v (opV_assign rfl) rfl rfl rfl ?_
            refine doL_nil ?_
            refine post_block_normal ?_
            refine post_then ?_
            refine doC_region ?_
            refine doL_v (opV_move rfl) rfl rfl rfl ?_
            refine doL_v (opV_add rfl rfl (inc_nat (by omega))) rfl rfl rfl ?_
            refine doL_v (opV_assign rfl) rfl rfl rfl ?_
            refine doL_nil ?_
            refine post_again (k + 1, q + 1 + 1, a66, c66, rows ++ [⟨j.lo + r39, min j.hi (j.lo + r39 + 0)⟩]) (by refine ⟨?_, ?_, ?_⟩ <;> dsimp only; omega; exact bx_step hjk hsh hr39 (bxW_4 hr42 (of_decide_eq_false hc43) (of_decide_eq_false hc48) (of_decide_eq_false hc48_2) (of_decide_eq_false hc53)); simp [hlen]) (by show js.length - (k + 1) < js.length - k; omega) (by dsimp only; rw [ivC_snoc]; rfl) ?_ ?_ rfl
            repeat' first | exact trivial | exact True.intro | refine ⟨rfl, ?_⟩
  ·
    obtain rfl : k = js.length := by have := of_decide_eq_false hc18; omega
    refine doC_exit ?_
    refine post_then_exit ?_
    refine post_then_exit ?_
    refine post_block_exit ?_
    refine post_then ?_
    refine doC_seq ?_
    refine doC_region ?_
    refine doL_v (opV_move rfl) rfl rfl rfl ?_
    refine doL_v (opV_assign rfl) rfl rfl rfl ?_
    refine doL_nil ?_
    refine post_then ?_
    refine doC_ret ?_
    refine post_ret (rs := [.tmp 4]) rfl (resC (resIs_tmp rfl) (resN)) rfl ?_
    intro w2 k2
    obtain ⟨_, q2, q3⟩ := k2.facts _ List.mem_cons_self
    exact ⟨(a, cap), trivial, rfl, k2.grow, ownD a, slc_dep _ _ _, fun z hz => ⟨(q2 z hz).1, (q2 z hz).2.1⟩, by dsimp only; rw [hsh]; exact iv_slc hlen q3⟩
end Go.Proofs.Ytonampcmhhhffaa
namespace Go.Sx
open Go.RowKit
def deadB (ops : Array Oper) (S : Slots) (o : Oper) : Bool :=
  match o.guard with
  | none => false
  | some (j, _) => match (ops[j]?).bind (·.dst) with
    | some d => match look S d with
      | some (.tuple _) => true
      | _ => false
    | none => false
theorem wanted_dead {n : Nat} {S : Slots} {a : Act} {ops : Array Oper} {o : Oper} (f : Fits n S a) (h : deadB ops S o = true) : Region.wanted o (yielded ops a.tmps) = false := by
  unfold deadB at h
  unfold Region.wanted
  cases hg : o.guard with
  | none => simp [hg] at h
  | some gg =>
    obtain ⟨j, c⟩ := gg
    simp only [hg] at h ⊢
    unfold yielded
    cases hd : (ops[j]?).bind (·.dst) with
    | none => simp [hd] at h
    | some dd =>
      simp only [hd] at h ⊢
      cases hl : look S dd with
      | none => simp [hl] at h
      | some v =>
        rw [hl] at h
        cases v <;> simp at h
        simp [f.has dd _ hl]
theorem doL_dead {P : Program} {n : Nat} {w0 : Base} {ops : Array Oper} {Q : Exit → Act → World → Prop} {S : Slots} {H : Heap} {o : Oper} {rest : List Oper} {d : Nat} (hw : deadB ops S o = true) (hd : o.dst = some d) (hn : Nat.blt d n = true)
    (next : DoL P n w0 ops Q rest ((d, undef) :: S) H) : DoL P n w0 ops Q (o :: rest) S H := by
  intro a w f k
  unfold wpList
  rw [wanted_dead f hw, if_neg (by simp), hd]
  exact next _ _ (f.put hn _) k
section
variable {P : Program} {w0 : Base} {S : Slots} {H : Heap} {ty : TypeId} {pos : String} {af : Array Edge} {g : Option (Nat × Bool)}
theorem opV_eqlS {dd : Option Tmp} {x y : Operand} {t t' : TypeId} {p q : ByteArray} (hb : P.underlying t = some .string) (hx : ev S x = some (.string p)) (hy : ev S y = some (.string q)) : OpV P w0 S H ⟨dd, .binOp .eql t x y t', ty, pos, af, g⟩ (.bool (p.toList == q.toList)) :=
  opV_of (by simp [knownB, Op.operands, hx, hy]) rfl fun w _ => by simp [execOp, evD_of hx, evD_of hy, eqGuard, binOp, Op.stringOp]
theorem opV_lenStr {dd : Option Tmp} {x : Operand} {t : TypeId} {p : ByteArray} (hb : P.underlying t = some .string) (hx : ev S x = some (.string p)) : OpV P w0 S H ⟨dd, .call ⟨.builtin .len, #[x], #[t]⟩, ty, pos, af, g⟩ (.int .i64 (p.size : Int)) :=
  opV_of (by simp [knownB, Op.operands, Call.operands, hx]) rfl fun w _ => by simp [execOp, resolve, invoke, builtin, evD_of hx, Builtin.len_, run_underlying hb, goInt]
end
end Go.Sx

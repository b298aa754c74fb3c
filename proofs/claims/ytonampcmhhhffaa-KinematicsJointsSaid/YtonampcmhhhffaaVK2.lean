/- What making a joint computes. No condition. -/
import Derived.Test.YtonampcmhhhffaaProg
import Derived.Test.YtonampcmhhhffaaVRob
import Derived.Test.YtonampcmhhhffaaVA1
import Derived.Test.YtonampcmhhhffaaVA2
import Derived.Test.YtonampcmhhhffaaVSrc
namespace Go.Proofs.Ytonampcmhhhffaa
open Go.Sx
theorem ze70 : zeroIs Try.prog 70 (.agg #[.string ByteArray.empty, .int .i64 0, .int .i64 0, .int .i64 0, .int .i64 0, .int .i64 0, .int .i64 0, .int .i64 0, .int .i64 0, .int .i64 0, .int .i64 0, .int .i64 0]) := by unfold zeroIs; kernel_rfl
theorem en153 : Enters Try.prog 153 := enters_of Try.func153 (by kernel_rfl) (by kernel_rfl)
theorem la70 : layoutOf Try.prog 70 = some ([.string ByteArray.empty, .int .i64 0, .int .i64 0, .int .i64 0, .int .i64 0, .int .i64 0, .int .i64 0, .int .i64 0, .int .i64 0, .int .i64 0, .int .i64 0, .int .i64 0], [(0, 1), (1, 1), (2, 1), (3, 3), (6, 1), (7, 1), (8, 1), (9, 1), (10, 1), (11, 1)]) := by kernel_rfl
theorem ty70 : tyB Try.prog 70 true 12 = true := by kernel_rfl
theorem la152 : layoutOf Try.prog 152 = some ([.int .i64 0, .int .i64 0, .int .i64 0, .int .i64 0, .int .i64 0, .int .i64 0, .int .i64 0, .int .i64 0], [(0, 1), (1, 1), (2, 1), (3, 1), (4, 1), (5, 1), (6, 1), (7, 1)]) := by kernel_rfl
theorem fa70_1 : fieldB Try.prog 70 1 1 = true := by kernel_rfl
theorem fa70_2 : fieldB Try.prog 70 2 2 = true := by kernel_rfl
theorem en28 : Enters Try.prog 28 := enters_of Try.func28 (by kernel_rfl) (by kernel_rfl)
theorem la38 : layoutOf Try.prog 38 = some ([.int .i64 0, .int .i64 0, .int .i64 0], [(0, 1), (1, 1), (2, 1)]) := by kernel_rfl
theorem fa70_3 : fieldB Try.prog 70 3 3 = true := by kernel_rfl
theorem ty38 : tyB Try.prog 38 true 3 = true := by kernel_rfl
theorem fa70_4 : fieldB Try.prog 70 4 6 = true := by kernel_rfl
theorem fa70_5 : fieldB Try.prog 70 5 7 = true := by kernel_rfl

theorem mkLetter (k : Int) (hk : 0 ≤ k ∧ k ≤ 9) (w : World) : Calls Try.prog 153 [.int .i64 k].toArray w (Rets (vS (letterB k)) (w)) := by
  refine calls_of_doC (n := 7) Try.func153 rfl rfl rfl ?_
  refine doC_seq ?_
  refine doC_region ?_
  refine doL_v (opV_assign rfl) rfl rfl rfl ?_
  refine doL_nil ?_
  refine post_then ?_
  refine doC_seq ?_
  refine doC_region ?_
  refine doL_v (opV_move rfl) rfl rfl rfl ?_
  refine doL_v (opV_move rfl) rfl rfl rfl ?_
  refine doL_v (opV_add rfl rfl (by first | exact i64_in ⟨by omega, by omega⟩ | rfl)) rfl rfl rfl ?_
  refine doL_v (opV_sliceStr (s := abc) Try.underlying9 rfl rfl rfl (by omega) (by omega) (by show _ ≤ (10 : Int); omega)) rfl rfl rfl ?_
  refine doL_v (opV_assign rfl) rfl rfl rfl ?_
  refine doL_nil ?_
  refine post_then ?_
  refine doC_ret ?_
  refine post_rets (rs := [.tmp 2]) rfl (resC (resIs_tmp rfl) (resN)) (congrArg (vS) (?_ : _ = letterB k))
  rfl

theorem ixK {i : Int} (h : 0 ≤ i ∧ i < 8) : ∀ w : World, (Instr.index 152 (.agg #[.int .i64 3, .int .i64 3, .int .i64 1, .int .i64 2, .int .i64 4, .int .i64 5, .int .i64 3, .int .i64 0]) (.int .i64 i)).run Try.prog w = .ok (.int .i64 (kindOf i)) w := by
  have hi : i = 0 ∨ i = 1 ∨ i = 2 ∨ i = 3 ∨ i = 4 ∨ i = 5 ∨ i = 6 ∨ i = 7 := by omega
  rcases hi with rfl | rfl | rfl | rfl | rfl | rfl | rfl | rfl <;> (intro w; kernel_rfl)
theorem quo8 {a : Int} (h : -9000000000 ≤ a ∧ a ≤ 9000000000) : IntKind.i64.wrap (a.tdiv 8) = a.tdiv 8 := i64_in (by
  have := tdiv_bnd (a := a) (b := 8) (by unfold In64; omega) (by decide)
  exact this)
theorem hi8 {a b : Int} (ha : 0 ≤ a ∧ a < 4) (hb : 0 ≤ b ∧ b < 3) : IntKind.i64.wrap (((1 + a) * 65536).tdiv 8 + b) = ((1 + a) * 65536).tdiv 8 + b := i64_in (by
  rw [Int.tdiv_eq_ediv_of_nonneg (by omega)]; omega)

theorem mkJoint {b : Nat} {sl : Value} {L : List Int} {i : Nat} (k : Int) (hk : 0 ≤ k ∧ k ≤ 9) (w : World) (hs : Src w b sl L i) : Calls Try.prog 128 [.pointer (some ⟨b, 0, none⟩), .int .i64 k].toArray w (Rets (jv ((jointOf L i k).1)) (srcW w b sl L ((jointOf L i k).2))) := by
  refine calls_src (n := 68) hs Try.func128 rfl rfl rfl ?_
  refine doC_seq ?_
  refine doC_region ?_
  refine doL_alloc 4 ze70 rfl rfl rfl ?_; intro b4
  refine doL_nil ?_
  refine post_then ?_
  refine doC_seq ?_
  refine doC_region ?_
  refine doL_v (opV_move rfl) rfl rfl rfl ?_
  refine doL_vg (F := vS) (opV_call en153 rfl (fun w _ => mkLetter _ (by first | omega | assumption | (unfold In64; omega) | decide) w)) rfl rfl rfl ?_; intro r7 hr7
  refine doL_v (opV_move rfl) rfl rfl rfl ?_
  refine doL_v (opV_sub rfl rfl (by first | exact i64_in ⟨by omega, by omega⟩ | rfl)) rfl rfl rfl ?_
  refine doL_v (opV_move rfl) rfl rfl rfl ?_
  refine doL_srcA (F := vI) hs en30 rfl (fun w' h => srcNext _ (by first | omega | assumption | (unfold In64; omega) | decide) w' h) rfl rfl ?_; intro r11 hr11
  have br11 := srcR_b hr11 (by first | decide | omega)
  refine doL_v (opV_add rfl rfl (by first | exact i64_in ⟨by omega, by omega⟩ | rfl)) rfl rfl rfl ?_
  refine doL_v (opV_move rfl) rfl rfl rfl ?_
  refine doL_srcA (F := vI) hs en30 rfl (fun w' h => srcNext _ (by first | omega | assumption | (unfold In64; omega) | decide) w' h) rfl rfl ?_; intro r14 hr14
  have br14 := srcR_b hr14 (by first | decide | omega)
  refine doL_v (opV_add rfl rfl (by first | exact i64_in ⟨by omega, by omega⟩ | rfl)) rfl rfl rfl ?_
  refine doL_v (opV_build la70 rfl rfl) rfl rfl rfl ?_
  refine doL_alloc 5 ze70 rfl rfl rfl ?_; intro b5
  refine doL_store 5 ty70 rfl rfl rfl rfl rfl rfl rfl rfl ?_
  refine doL_nil ?_
  refine post_then ?_
  refine doC_seq ?_
  refine doC_region ?_
  refine doL_v (opV_build la152 rfl rfl) rfl rfl rfl ?_
  refine doL_v (opV_move rfl) rfl rfl rfl ?_
  refine doL_srcA (F := vI) hs en30 rfl (fun w' h => srcNext _ (by first | omega | assumption | (unfold In64; omega) | decide) w' h) rfl rfl ?_; intro r19 hr19
  have br19 := srcR_b hr19 (by first | decide | omega)
  refine doL_v (opV_index rfl rfl (ixK (by omega))) rfl rfl rfl ?_
  refine doL_v (opV_fieldAddr fa70_1 rfl) rfl rfl rfl ?_
  refine doL_store 5 ty3 rfl rfl rfl rfl rfl rfl rfl rfl ?_
  refine doL_nil ?_
  refine post_then ?_
  refine doC_seq ?_
  refine doC_seq ?_
  refine doC_region ?_
  refine doL_v (opV_move rfl) rfl rfl rfl ?_
  refine doL_srcA (F := vI) hs en30 rfl (fun w' h => srcNext _ (by first | omega | assumption | (unfold In64; omega) | decide) w' h) rfl rfl ?_; intro r23 hr23
  have br23 := srcR_b hr23 (by first | decide | omega)
  refine doL_v (opV_eql rfl rfl) rfl rfl rfl ?_
  refine doL_nil ?_
  refine post_then ?_
  refine doC_cond rfl (fun hc24 => ?_) (fun hc24 => ?_)
  ·
    have hp : srcR L (i + 3) 4 = 1 := by have := of_decide_eq_true hc24; rw [← this]; exact hr23.symm
    refine doC_region ?_
    refine doL_v (opV_fieldAddr fa70_2 rfl) rfl rfl rfl ?_
    refine doL_store 5 ty3 rfl rfl rfl rfl rfl rfl rfl rfl ?_
    refine doL_nil ?_
    refine post_then ?_
    refine doC_seq ?_
    refine doC_seq ?_
    refine doC_region ?_
    refine doL_v (opV_move rfl) rfl rfl rfl ?_
    refine doL_v (opV_gtr rfl rfl) rfl rfl rfl ?_
    refine doL_nil ?_
    refine post_then ?_
    refine doC_cond rfl (fun hc27 => ?_) (fun hc27 => ?_)
    ·
      have hi : 0 < k := of_decide_eq_true hc27
      refine doC_region ?_
      refine doL_v (opV_move rfl) rfl rfl rfl ?_
      refine doL_srcA (F := vI) hs en28 rfl (fun w' h => srcSigned _ (by first | omega | assumption | (unfold In64; omega) | decide) w' h) rfl rfl ?_; intro r29 hr29
      have br29 := srcS_b hr29 (by first | decide | omega)
      refine doL_v (opV_mul rfl rfl (by first | exact i64_in ⟨by omega, by omega⟩ | rfl)) rfl rfl rfl ?_
      refine doL_v (opV_move rfl) rfl rfl rfl ?_
      refine doL_srcA (F := vI) hs en28 rfl (fun w' h => srcSigned _ (by first | omega | assumption | (unfold In64; omega) | decide) w' h) rfl rfl ?_; intro r32 hr32
      have br32 := srcS_b hr32 (by first | decide | omega)
      refine doL_v (opV_mul rfl rfl (by first | exact i64_in ⟨by omega, by omega⟩ | rfl)) rfl rfl rfl ?_
      refine doL_v (opV_build la38 rfl rfl) rfl rfl rfl ?_
      refine doL_v (opV_fieldAddr fa70_3 rfl) rfl rfl rfl ?_
      refine doL_store 5 ty38 rfl rfl rfl rfl rfl rfl rfl rfl ?_
      refine doL_nil ?_
      refine post_then ?_
      refine doC_seq ?_
      refine doC_seq ?_
      refine doC_region ?_
      refine doL_v (opV_fieldAddr fa70_1 rfl) rfl rfl rfl ?_
      refine doL_v (opV_load1 5 ty3 rfl rfl rfl) rfl rfl rfl ?_
      refine doL_nil ?_
      refine post_then ?_
      refine doC_block ?_
      refine doC_seq ?_
      refine doC_region ?_
      refine doL_v (opV_eql rfl rfl) rfl rfl rfl ?_
      refine doL_v (opV_assign rfl) rfl rfl rfl ?_
      refine doL_nil ?_
      refine post_then ?_
      refine doC_cond rfl (fun hc53 => ?_) (fun hc53 => ?_)
      ·
        have hk0 : kindOf (srcR L (i + 2) 8) = 0 := by have := of_decide_eq_true hc53; rw [hr19] at this; exact this
        rw [jointOf_fix hk0]
        first | rw [jBase_a hp hi, jQ_pos hi] | rw [jBase_b hp hi, jQ_neg hi] | rw [jBase_c hp hi, jQ_pos hi] | rw [jBase_d hp hi, jQ_neg hi]
        refine doC_skip ?_
        refine post_block_normal ?_
        refine post_then ?_
        refine doC_seq ?_
        refine doC_region ?_
        refine doL_v (opV_loadA 5 ty70 rfl rfl rfl) rfl rfl rfl ?_
        refine doL_store 4 ty70 rfl rfl rfl rfl rfl rfl rfl rfl ?_
        refine doL_nil ?_
        refine post_then ?_
        refine doC_ret ?_
        refine post_rets (rs := [.cell 4 70]) rfl (resC (resIs_cell 4 rfl rfl ty70 rfl) (resN)) ?_
        subst_vars; rfl
      ·
        have hk0 : ¬ kindOf (srcR L (i + 2) 8) = 0 := by have := of_decide_eq_false hc53; rw [hr19] at this; exact this
        refine doC_seq ?_
        refine doC_seq ?_
        refine doC_region ?_
        refine doL_v (opV_eql rfl rfl) rfl rfl rfl ?_
        refine doL_v (opV_assign rfl) rfl rfl rfl ?_
        refine doL_nil ?_
        refine post_then ?_
        refine doC_cond rfl (fun hc55 => ?_) (fun hc55 => ?_)
        ·
          have hk4 : kindOf (srcR L (i + 2) 8) = 4 := by have := of_decide_eq_true hc55; rw [hr19] at this; exact this
          rw [jointOf_sl (.inl hk4)]
          first | rw [jBase_a hp hi, jQ_pos hi] | rw [jBase_b hp hi, jQ_neg hi] | rw [jBase_c hp hi, jQ_pos hi] | rw [jBase_d hp hi, jQ_neg hi]
          refine doC_skip ?_
          refine post_then ?_
          refine doC_cond_t rfl (hc55) ?_
          refine doC_region ?_
          refine doL_v (opV_move rfl) rfl rfl rfl ?_
          refine doL_srcA (F := vI) hs en30 rfl (fun w' h => srcNext _ (by first | omega | assumption | (unfold In64; omega) | decide) w' h) rfl rfl ?_; intro r59 hr59
          have br59 := srcR_b hr59 (by first | decide | omega)
          refine doL_v (opV_neg rfl (by first | exact neg_in ⟨by omega, by omega⟩ | rfl)) rfl rfl rfl ?_
          refine doL_v (opV_mul rfl rfl (by first | exact i64_in ⟨by omega, by omega⟩ | rfl)) rfl rfl rfl ?_
          refine doL_v (opV_move rfl) rfl rfl rfl ?_
          refine doL_srcA (F := vI) hs en30 rfl (fun w' h => srcNext _ (by first | omega | assumption | (unfold In64; omega) | decide) w' h) rfl rfl ?_; intro r63 hr63
          have br63 := srcR_b hr63 (by first | decide | omega)
          refine doL_v (opV_mul rfl rfl (by first | exact i64_in ⟨by omega, by omega⟩ | rfl)) rfl rfl rfl ?_
          refine doL_v (opV_fieldAddr fa70_4 rfl) rfl rfl rfl ?_
          refine doL_store 5 ty2 rfl rfl rfl rfl rfl rfl rfl rfl ?_
          refine doL_v (opV_fieldAddr fa70_5 rfl) rfl rfl rfl ?_
          refine doL_store 5 ty2 rfl rfl rfl rfl rfl rfl rfl rfl ?_
          refine doL_nil ?_
          refine post_block_normal ?_
          refine post_then ?_
          refine doC_seq ?_
          refine doC_region ?_
          refine doL_v (opV_loadA 5 ty70 rfl rfl rfl) rfl rfl rfl ?_
          refine doL_store 4 ty70 rfl rfl rfl rfl rfl rfl rfl rfl ?_
          refine doL_nil ?_
          refine post_then ?_
          refine doC_ret ?_
          refine post_rets (rs := [.cell 4 70]) rfl (resC (resIs_cell 4 rfl rfl ty70 rfl) (resN)) ?_
          subst_vars; rfl
        ·
          have hk4 : ¬ kindOf (srcR L (i + 2) 8) = 4 := by have := of_decide_eq_false hc55; rw [hr19] at this; exact this
          refine doC_region ?_
          refine doL_v (opV_eql rfl rfl) rfl rfl rfl ?_
          refine doL_v (opV_assign rfl) rfl rfl rfl ?_
          refine doL_nil ?_
          refine post_then ?_
          refine doC_cond rfl (fun hc55_2 => ?_) (fun hc55_2 => ?_)
          ·
            have hk5 : kindOf (srcR L (i + 2) 8) = 5 := by have := of_decide_eq_true hc55_2; rw [hr19] at this; exact this
            rw [jointOf_sl (.inr hk5)]
            first | rw [jBase_a hp hi, jQ_pos hi] | rw [jBase_b hp hi, jQ_neg hi] | rw [jBase_c hp hi, jQ_pos hi] | rw [jBase_d hp hi, jQ_neg hi]
            refine doC_region ?_
            refine doL_v (opV_move rfl) rfl rfl rfl ?_
            refine doL_srcA (F := vI) hs en30 rfl (fun w' h => srcNext _ (by first | omega | assumption | (unfold In64; omega) | decide) w' h) rfl rfl ?_; intro r59 hr59
            have br59 := srcR_b hr59 (by first | decide | omega)
            refine doL_v (opV_neg rfl (by first | exact neg_in ⟨by omega, by omega⟩ | rfl)) rfl rfl rfl ?_
            refine doL_v (opV_mul rfl rfl (by first | exact i64_in ⟨by omega, by omega⟩ | rfl)) rfl rfl rfl ?_
            refine doL_v (opV_move rfl) rfl rfl rfl ?_
            refine doL_srcA (F := vI) hs en30 rfl (fun w' h => srcNext _ (by first | omega | assumption | (unfold In64; omega) | decide) w' h) rfl rfl ?_; intro r63 hr63
            have br63 := srcR_b hr63 (by first | decide | omega)
            refine doL_v (opV_mul rfl rfl (by first | exact i64_in ⟨by omega, by omega⟩ | rfl)) rfl rfl rfl ?_
            refine doL_v (opV_fieldAddr fa70_4 rfl) rfl rfl rfl ?_
            refine doL_store 5 ty2 rfl rfl rfl rfl rfl rfl rfl rfl ?_
            refine doL_v (opV_fieldAddr fa70_5 rfl) rfl rfl rfl ?_
            refine doL_store 5 ty2 rfl rfl rfl rfl rfl rfl rfl rfl ?_
            refine doL_nil ?_
            refine post_block_normal ?_
            refine post_then ?_
            refine doC_seq ?_
            refine doC_region ?_
            refine doL_v (opV_loadA 5 ty70 rfl rfl rfl) rfl rfl rfl ?_
            refine doL_store 4 ty70 rfl rfl rfl rfl rfl rfl rfl rfl ?_
            refine doL_nil ?_
            refine post_then ?_
            refine doC_ret ?_
            refine post_rets (rs := [.cell 4 70]) rfl (resC (resIs_cell 4 rfl rfl ty70 rfl) (resN)) ?_
            subst_vars; rfl
          ·
            have hk5 : ¬ kindOf (srcR L (i + 2) 8) = 5 := by have := of_decide_eq_false hc55_2; rw [hr19] at this; exact this
            rw [jointOf_tu hk0 (by omega)]
            first | rw [jBase_a hp hi, jQ_pos hi] | rw [jBase_b hp hi, jQ_neg hi] | rw [jBase_c hp hi, jQ_pos hi] | rw [jBase_d hp hi, jQ_neg hi]
            refine doC_region ?_
            refine doL_v (opV_move rfl) rfl rfl rfl ?_
            refine doL_srcA (F := vI) hs en30 rfl (fun w' h => srcNext _ (by first | omega | assumption | (unfold In64; omega) | decide) w' h) rfl rfl ?_; intro r39 hr39
            have br39 := srcR_b hr39 (by first | decide | omega)
            refine doL_v (opV_neg rfl (by first | exact neg_in ⟨by omega, by omega⟩ | rfl)) rfl rfl rfl ?_
            refine doL_v (opV_mul rfl rfl (by first | exact i64_in ⟨by omega, by omega⟩ | rfl)) rfl rfl rfl ?_
            refine doL_v (opV_quo rfl rfl (by first | decide | omega) (quo8 (by omega))) rfl rfl rfl ?_
            refine doL_v (opV_move rfl) rfl rfl rfl ?_
            refine doL_srcA (F := vI) hs en30 rfl (fun w' h => srcNext _ (by first | omega | assumption | (unfold In64; omega) | decide) w' h) rfl rfl ?_; intro r44 hr44
            have br44 := srcR_b hr44 (by first | decide | omega)
            refine doL_v (opV_add rfl rfl (by first | exact i64_in ⟨by omega, by omega⟩ | rfl)) rfl rfl rfl ?_
            refine doL_v (opV_mul rfl rfl (by first | exact i64_in ⟨by omega, by omega⟩ | rfl)) rfl rfl rfl ?_
            refine doL_v (opV_quo rfl rfl (by first | decide | omega) (quo8 (by omega))) rfl rfl rfl ?_
            refine doL_v (opV_move rfl) rfl rfl rfl ?_
            refine doL_srcA (F := vI) hs en30 rfl (fun w' h => srcNext _ (by first | omega | assumption | (unfold In64; omega) | decide) w' h) rfl rfl ?_; intro r49 hr49
            have br49 := srcR_b hr49 (by first | decide | omega)
            refine doL_v (opV_add rfl rfl (hi8 br44 br49)) rfl rfl rfl ?_
            refine doL_v (opV_fieldAddr fa70_4 rfl) rfl rfl rfl ?_
            refine doL_store 5 ty2 rfl rfl rfl rfl rfl rfl rfl rfl ?_
            refine doL_v (opV_fieldAddr fa70_5 rfl) rfl rfl rfl ?_
            refine doL_store 5 ty2 rfl rfl rfl rfl rfl rfl rfl rfl ?_
            refine doL_nil ?_
            refine post_block_normal ?_
            refine post_then ?_
            refine doC_seq ?_
            refine doC_region ?_
            refine doL_v (opV_loadA 5 ty70 rfl rfl rfl) rfl rfl rfl ?_
            refine doL_store 4 ty70 rfl rfl rfl rfl rfl rfl rfl rfl ?_
            refine doL_nil ?_
            refine post_then ?_
            refine doC_ret ?_
            refine post_rets (rs := [.cell 4 70]) rfl (resC (resIs_cell 4 rfl rfl ty70 rfl) (resN)) ?_
            subst_vars; rfl
    ·
      have hi : ¬ 0 < k := of_decide_eq_false hc27
      refine doC_skip ?_
      refine post_then ?_
      refine doC_seq ?_
      refine doC_seq ?_
      refine doC_region ?_
      refine doL_v (opV_fieldAddr fa70_1 rfl) rfl rfl rfl ?_
      refine doL_v (opV_load1 5 ty3 rfl rfl rfl) rfl rfl rfl ?_
      refine doL_nil ?_
      refine post_then ?_
      refine doC_block ?_
      refine doC_seq ?_
      refine doC_region ?_
      refine doL_v (opV_eql rfl rfl) rfl rfl rfl ?_
      refine doL_v (opV_assign rfl) rfl rfl rfl ?_
      refine doL_nil ?_
      refine post_then ?_
      refine doC_cond rfl (fun hc53 => ?_) (fun hc53 => ?_)
      ·
        have hk0 : kindOf (srcR L (i + 2) 8) = 0 := by have := of_decide_eq_true hc53; rw [hr19] at this; exact this
        rw [jointOf_fix hk0]
        first | rw [jBase_a hp hi, jQ_pos hi] | rw [jBase_b hp hi, jQ_neg hi] | rw [jBase_c hp hi, jQ_pos hi] | rw [jBase_d hp hi, jQ_neg hi]
        refine doC_skip ?_
        refine post_block_normal ?_
        refine post_then ?_
        refine doC_seq ?_
        refine doC_region ?_
        refine doL_v (opV_loadA 5 ty70 rfl rfl rfl) rfl rfl rfl ?_
        refine doL_store 4 ty70 rfl rfl rfl rfl rfl rfl rfl rfl ?_
        refine doL_nil ?_
        refine post_then ?_
        refine doC_ret ?_
        refine post_rets (rs := [.cell 4 70]) rfl (resC (resIs_cell 4 rfl rfl ty70 rfl) (resN)) ?_
        subst_vars; rfl
      ·
        have hk0 : ¬ kindOf (srcR L (i + 2) 8) = 0 := by have := of_decide_eq_false hc53; rw [hr19] at this; exact this
        refine doC_seq ?_
        refine doC_seq ?_
        refine doC_region ?_
        refine doL_v (opV_eql rfl rfl) rfl rfl rfl ?_
        refine doL_v (opV_assign rfl) rfl rfl rfl ?_
        refine doL_nil ?_
        refine post_then ?_
        refine doC_cond rfl (fun hc55 => ?_) (fun hc55 => ?_)
        ·
          have hk4 : kindOf (srcR L (i + 2) 8) = 4 := by have := of_decide_eq_true hc55; rw [hr19] at this; exact this
          rw [jointOf_sl (.inl hk4)]
          first | rw [jBase_a hp hi, jQ_pos hi] | rw [jBase_b hp hi, jQ_neg hi] | rw [jBase_c hp hi, jQ_pos hi] | rw [jBase_d hp hi, jQ_neg hi]
          refine doC_skip ?_
          refine post_then ?_
          refine doC_cond_t rfl (hc55) ?_
          refine doC_region ?_
          refine doL_v (opV_move rfl) rfl rfl rfl ?_
          refine doL_srcA (F := vI) hs en30 rfl (fun w' h => srcNext _ (by first | omega | assumption | (unfold In64; omega) | decide) w' h) rfl rfl ?_; intro r59 hr59
          have br59 := srcR_b hr59 (by first | decide | omega)
          refine doL_v (opV_neg rfl (by first | exact neg_in ⟨by omega, by omega⟩ | rfl)) rfl rfl rfl ?_
          refine doL_v (opV_mul rfl rfl (by first | exact i64_in ⟨by omega, by omega⟩ | rfl)) rfl rfl rfl ?_
          refine doL_v (opV_move rfl) rfl rfl rfl ?_
          refine doL_srcA (F := vI) hs en30 rfl (fun w' h => srcNext _ (by first | omega | assumption | (unfold In64; omega) | decide) w' h) rfl rfl ?_; intro r63 hr63
          have br63 := srcR_b hr63 (by first | decide | omega)
          refine doL_v (opV_mul rfl rfl (by first | exact i64_in ⟨by omega, by omega⟩ | rfl)) rfl rfl rfl ?_
          refine doL_v (opV_fieldAddr fa70_4 rfl) rfl rfl rfl ?_
          refine doL_store 5 ty2 rfl rfl rfl rfl rfl rfl rfl rfl ?_
          refine doL_v (opV_fieldAddr fa70_5 rfl) rfl rfl rfl ?_
          refine doL_store 5 ty2 rfl rfl rfl rfl rfl rfl rfl rfl ?_
          refine doL_nil ?_
          refine post_block_normal ?_
          refine post_then ?_
          refine doC_seq ?_
          refine doC_region ?_
          refine doL_v (opV_loadA 5 ty70 rfl rfl rfl) rfl rfl rfl ?_
          refine doL_store 4 ty70 rfl rfl rfl rfl rfl rfl rfl rfl ?_
          refine doL_nil ?_
          refine post_then ?_
          refine doC_ret ?_
          refine post_rets (rs := [.cell 4 70]) rfl (resC (resIs_cell 4 rfl rfl ty70 rfl) (resN)) ?_
          subst_vars; rfl
        ·
          have hk4 : ¬ kindOf (srcR L (i + 2) 8) = 4 := by have := of_decide_eq_false hc55; rw [hr19] at this; exact this
          refine doC_region ?_
          refine doL_v (opV_eql rfl rfl) rfl rfl rfl ?_
          refine doL_v (opV_assign rfl) rfl rfl rfl ?_
          refine doL_nil ?_
          refine post_then ?_
          refine doC_cond rfl (fun hc55_2 => ?_) (fun hc55_2 => ?_)
          ·
            have hk5 : kindOf (srcR L (i + 2) 8) = 5 := by have := of_decide_eq_true hc55_2; rw [hr19] at this; exact this
            rw [jointOf_sl (.inr hk5)]
            first | rw [jBase_a hp hi, jQ_pos hi] | rw [jBase_b hp hi, jQ_neg hi] | rw [jBase_c hp hi, jQ_pos hi] | rw [jBase_d hp hi, jQ_neg hi]
            refine doC_region ?_
            refine doL_v (opV_move rfl) rfl rfl rfl ?_
            refine doL_srcA (F := vI) hs en30 rfl (fun w' h => srcNext _ (by first | omega | assumption | (unfold In64; omega) | decide) w' h) rfl rfl ?_; intro r59 hr59
            have br59 := srcR_b hr59 (by first | decide | omega)
            refine doL_v (opV_neg rfl (by first | exact neg_in ⟨by omega, by omega⟩ | rfl)) rfl rfl rfl ?_
            refine doL_v (opV_mul rfl rfl (by first | exact i64_in ⟨by omega, by omega⟩ | rfl)) rfl rfl rfl ?_
            refine doL_v (opV_move rfl) rfl rfl rfl ?_
            refine doL_srcA (F := vI) hs en30 rfl (fun w' h => srcNext _ (by first | omega | assumption | (unfold In64; omega) | decide) w' h) rfl rfl ?_; intro r63 hr63
            have br63 := srcR_b hr63 (by first | decide | omega)
            refine doL_v (opV_mul rfl rfl (by first | exact i64_in ⟨by omega, by omega⟩ | rfl)) rfl rfl rfl ?_
            refine doL_v (opV_fieldAddr fa70_4 rfl) rfl rfl rfl ?_
            refine doL_store 5 ty2 rfl rfl rfl rfl rfl rfl rfl rfl ?_
            refine doL_v (opV_fieldAddr fa70_5 rfl) rfl rfl rfl ?_
            refine doL_store 5 ty2 rfl rfl rfl rfl rfl rfl rfl rfl ?_
            refine doL_nil ?_
            refine post_block_normal ?_
            refine post_then ?_
            refine doC_seq ?_
            refine doC_region ?_
            refine doL_v (opV_loadA 5 ty70 rfl rfl rfl) rfl rfl rfl ?_
            refine doL_store 4 ty70 rfl rfl rfl rfl rfl rfl rfl rfl ?_
            refine doL_nil ?_
            refine post_then ?_
            refine doC_ret ?_
            refine post_rets (rs := [.cell 4 70]) rfl (resC (resIs_cell 4 rfl rfl ty70 rfl) (resN)) ?_
            subst_vars; rfl
          ·
            have hk5 : ¬ kindOf (srcR L (i + 2) 8) = 5 := by have := of_decide_eq_false hc55_2; rw [hr19] at this; exact this
            rw [jointOf_tu hk0 (by omega)]
            first | rw [jBase_a hp hi, jQ_pos hi] | rw [jBase_b hp hi, jQ_neg hi] | rw [jBase_c hp hi, jQ_pos hi] | rw [jBase_d hp hi, jQ_neg hi]
            refine doC_region ?_
            refine doL_v (opV_move rfl) rfl rfl rfl ?_
            refine doL_srcA (F := vI) hs en30 rfl (fun w' h => srcNext _ (by first | omega | assumption | (unfold In64; omega) | decide) w' h) rfl rfl ?_; intro r39 hr39
            have br39 := srcR_b hr39 (by first | decide | omega)
            refine doL_v (opV_neg rfl (by first | exact neg_in ⟨by omega, by omega⟩ | rfl)) rfl rfl rfl ?_
            refine doL_v (opV_mul rfl rfl (by first | exact i64_in ⟨by omega, by omega⟩ | rfl)) rfl rfl rfl ?_
            refine doL_v (opV_quo rfl rfl (by first | decide | omega) (quo8 (by omega))) rfl rfl rfl ?_
            refine doL_v (opV_move rfl) rfl rfl rfl ?_
            refine doL_srcA (F := vI) hs en30 rfl (fun w' h => srcNext _ (by first | omega | assumption | (unfold In64; omega) | decide) w' h) rfl rfl ?_; intro r44 hr44
            have br44 := srcR_b hr44 (by first | decide | omega)
            refine doL_v (opV_add rfl rfl (by first | exact i64_in ⟨by omega, by omega⟩ | rfl)) rfl rfl rfl ?_
            refine doL_v (opV_mul rfl rfl (by first | exact i64_in ⟨by omega, by omega⟩ | rfl)) rfl rfl rfl ?_
            refine doL_v (opV_quo rfl rfl (by first | decide | omega) (quo8 (by omega))) rfl rfl rfl ?_
            refine doL_v (opV_move rfl) rfl rfl rfl ?_
            refine doL_srcA (F := vI) hs en30 rfl (fun w' h => srcNext _ (by first | omega | assumption | (unfold In64; omega) | decide) w' h) rfl rfl ?_; intro r49 hr49
            have br49 := srcR_b hr49 (by first | decide | omega)
            refine doL_v (opV_add rfl rfl (hi8 br44 br49)) rfl rfl rfl ?_
            refine doL_v (opV_fieldAddr fa70_4 rfl) rfl rfl rfl ?_
            refine doL_store 5 ty2 rfl rfl rfl rfl rfl rfl rfl rfl ?_
            refine doL_v (opV_fieldAddr fa70_5 rfl) rfl rfl rfl ?_
            refine doL_store 5 ty2 rfl rfl rfl rfl rfl rfl rfl rfl ?_
            refine doL_nil ?_
            refine post_block_normal ?_
            refine post_then ?_
            refine doC_seq ?_
            refine doC_region ?_
            refine doL_v (opV_loadA 5 ty70 rfl rfl rfl) rfl rfl rfl ?_
            refine doL_store 4 ty70 rfl rfl rfl rfl rfl rfl rfl rfl ?_
            refine doL_nil ?_
            refine post_then ?_
            refine doC_ret ?_
            refine post_rets (rs := [.cell 4 70]) rfl (resC (resIs_cell 4 rfl rfl ty70 rfl) (resN)) ?_
            subst_vars; rfl
  ·
    have hp : ¬ srcR L (i + 3) 4 = 1 := fun e => by have := of_decide_eq_false hc24; exact this (hr23.trans e)
    refine doC_skip ?_
    refine post_then ?_
    refine doC_seq ?_
    refine doC_seq ?_
    refine doC_region ?_
    refine doL_v (opV_move rfl) rfl rfl rfl ?_
    refine doL_v (opV_gtr rfl rfl) rfl rfl rfl ?_
    refine doL_nil ?_
    refine post_then ?_
    refine doC_cond rfl (fun hc27 => ?_) (fun hc27 => ?_)
    ·
      have hi : 0 < k := of_decide_eq_true hc27
      refine doC_region ?_
      refine doL_v (opV_move rfl) rfl rfl rfl ?_
      refine doL_srcA (F := vI) hs en28 rfl (fun w' h => srcSigned _ (by first | omega | assumption | (unfold In64; omega) | decide) w' h) rfl rfl ?_; intro r29 hr29
      have br29 := srcS_b hr29 (by first | decide | omega)
      refine doL_v (opV_mul rfl rfl (by first | exact i64_in ⟨by omega, by omega⟩ | rfl)) rfl rfl rfl ?_
      refine doL_v (opV_move rfl) rfl rfl rfl ?_
      refine doL_srcA (F := vI) hs en28 rfl (fun w' h => srcSigned _ (by first | omega | assumption | (unfold In64; omega) | decide) w' h) rfl rfl ?_; intro r32 hr32
      have br32 := srcS_b hr32 (by first | decide | omega)
      refine doL_v (opV_mul rfl rfl (by first | exact i64_in ⟨by omega, by omega⟩ | rfl)) rfl rfl rfl ?_
      refine doL_v (opV_build la38 rfl rfl) rfl rfl rfl ?_
      refine doL_v (opV_fieldAddr fa70_3 rfl) rfl rfl rfl ?_
      refine doL_store 5 ty38 rfl rfl rfl rfl rfl rfl rfl rfl ?_
      refine doL_nil ?_
      refine post_then ?_
      refine doC_seq ?_
      refine doC_seq ?_
      refine doC_region ?_
      refine doL_v (opV_fieldAddr fa70_1 rfl) rfl rfl rfl ?_
      refine doL_v (opV_load1 5 ty3 rfl rfl rfl) rfl rfl rfl ?_
      refine doL_nil ?_
      refine post_then ?_
      refine doC_block ?_
      refine doC_seq ?_
      refine doC_region ?_
      refine doL_v (opV_eql rfl rfl) rfl rfl rfl ?_
      refine doL_v (opV_assign rfl) rfl rfl rfl ?_
      refine doL_nil ?_
      refine post_then ?_
      refine doC_cond rfl (fun hc53 => ?_) (fun hc53 => ?_)
      ·
        have hk0 : kindOf (srcR L (i + 2) 8) = 0 := by have := of_decide_eq_true hc53; rw [hr19] at this; exact this
        rw [jointOf_fix hk0]
        first | rw [jBase_a hp hi, jQ_pos hi] | rw [jBase_b hp hi, jQ_neg hi] | rw [jBase_c hp hi, jQ_pos hi] | rw [jBase_d hp hi, jQ_neg hi]
        refine doC_skip ?_
        refine post_block_normal ?_
        refine post_then ?_
        refine doC_seq ?_
        refine doC_region ?_
        refine doL_v (opV_loadA 5 ty70 rfl rfl rfl) rfl rfl rfl ?_
        refine doL_store 4 ty70 rfl rfl rfl rfl rfl rfl rfl rfl ?_
        refine doL_nil ?_
        refine post_then ?_
        refine doC_ret ?_
        refine post_rets (rs := [.cell 4 70]) rfl (resC (resIs_cell 4 rfl rfl ty70 rfl) (resN)) ?_
        subst_vars; rfl
      ·
        have hk0 : ¬ kindOf (srcR L (i + 2) 8) = 0 := by have := of_decide_eq_false hc53; rw [hr19] at this; exact this
        refine doC_seq ?_
        refine doC_seq ?_
        refine doC_region ?_
        refine doL_v (opV_eql rfl rfl) rfl rfl rfl ?_
        refine doL_v (opV_assign rfl) rfl rfl rfl ?_
        refine doL_nil ?_
        refine post_then ?_
        refine doC_cond rfl (fun hc55 => ?_) (fun hc55 => ?_)
        ·
          have hk4 : kindOf (srcR L (i + 2) 8) = 4 := by have := of_decide_eq_true hc55; rw [hr19] at this; exact this
          rw [jointOf_sl (.inl hk4)]
          first | rw [jBase_a hp hi, jQ_pos hi] | rw [jBase_b hp hi, jQ_neg hi] | rw [jBase_c hp hi, jQ_pos hi] | rw [jBase_d hp hi, jQ_neg hi]
          refine doC_skip ?_
          refine post_then ?_
          refine doC_cond_t rfl (hc55) ?_
          refine doC_region ?_
          refine doL_v (opV_move rfl) rfl rfl rfl ?_
          refine doL_srcA (F := vI) hs en30 rfl (fun w' h => srcNext _ (by first | omega | assumption | (unfold In64; omega) | decide) w' h) rfl rfl ?_; intro r59 hr59
          have br59 := srcR_b hr59 (by first | decide | omega)
          refine doL_v (opV_neg rfl (by first | exact neg_in ⟨by omega, by omega⟩ | rfl)) rfl rfl rfl ?_
          refine doL_v (opV_mul rfl rfl (by first | exact i64_in ⟨by omega, by omega⟩ | rfl)) rfl rfl rfl ?_
          refine doL_v (opV_move rfl) rfl rfl rfl ?_
          refine doL_srcA (F := vI) hs en30 rfl (fun w' h => srcNext _ (by first | omega | assumption | (unfold In64; omega) | decide) w' h) rfl rfl ?_; intro r63 hr63
          have br63 := srcR_b hr63 (by first | decide | omega)
          refine doL_v (opV_mul rfl rfl (by first | exact i64_in ⟨by omega, by omega⟩ | rfl)) rfl rfl rfl ?_
          refine doL_v (opV_fieldAddr fa70_4 rfl) rfl rfl rfl ?_
          refine doL_store 5 ty2 rfl rfl rfl rfl rfl rfl rfl rfl ?_
          refine doL_v (opV_fieldAddr fa70_5 rfl) rfl rfl rfl ?_
          refine doL_store 5 ty2 rfl rfl rfl rfl rfl rfl rfl rfl ?_
          refine doL_nil ?_
          refine post_block_normal ?_
          refine post_then ?_
          refine doC_seq ?_
          refine doC_region ?_
          refine doL_v (opV_loadA 5 ty70 rfl rfl rfl) rfl rfl rfl ?_
          refine doL_store 4 ty70 rfl rfl rfl rfl rfl rfl rfl rfl ?_
          refine doL_nil ?_
          refine post_then ?_
          refine doC_ret ?_
          refine post_rets (rs := [.cell 4 70]) rfl (resC (resIs_cell 4 rfl rfl ty70 rfl) (resN)) ?_
          subst_vars; rfl
        ·
          have hk4 : ¬ kindOf (srcR L (i + 2) 8) = 4 := by have := of_decide_eq_false hc55; rw [hr19] at this; exact this
          refine doC_region ?_
          refine doL_v (opV_eql rfl rfl) rfl rfl rfl ?_
          refine doL_v (opV_assign rfl) rfl rfl rfl ?_
          refine doL_nil ?_
          refine post_then ?_
          refine doC_cond rfl (fun hc55_2 => ?_) (fun hc55_2 => ?_)
          ·
            have hk5 : kindOf (srcR L (i + 2) 8) = 5 := by have := of_decide_eq_true hc55_2; rw [hr19] at this; exact this
            rw [jointOf_sl (.inr hk5)]
            first | rw [jBase_a hp hi, jQ_pos hi] | rw [jBase_b hp hi, jQ_neg hi] | rw [jBase_c hp hi, jQ_pos hi] | rw [jBase_d hp hi, jQ_neg hi]
            refine doC_region ?_
            refine doL_v (opV_move rfl) rfl rfl rfl ?_
            refine doL_srcA (F := vI) hs en30 rfl (fun w' h => srcNext _ (by first | omega | assumption | (unfold In64; omega) | decide) w' h) rfl rfl ?_; intro r59 hr59
            have br59 := srcR_b hr59 (by first | decide | omega)
            refine doL_v (opV_neg rfl (by first | exact neg_in ⟨by omega, by omega⟩ | rfl)) rfl rfl rfl ?_
            refine doL_v (opV_mul rfl rfl (by first | exact i64_in ⟨by omega, by omega⟩ | rfl)) rfl rfl rfl ?_
            refine doL_v (opV_move rfl) rfl rfl rfl ?_
            refine doL_srcA (F := vI) hs en30 rfl (fun w' h => srcNext _ (by first | omega | assumption | (unfold In64; omega) | decide) w' h) rfl rfl ?_; intro r63 hr63
            have br63 := srcR_b hr63 (by first | decide | omega)
            refine doL_v (opV_mul rfl rfl (by first | exact i64_in ⟨by omega, by omega⟩ | rfl)) rfl rfl rfl ?_
            refine doL_v (opV_fieldAddr fa70_4 rfl) rfl rfl rfl ?_
            refine doL_store 5 ty2 rfl rfl rfl rfl rfl rfl rfl rfl ?_
            refine doL_v (opV_fieldAddr fa70_5 rfl) rfl rfl rfl ?_
            refine doL_store 5 ty2 rfl rfl rfl rfl rfl rfl rfl rfl ?_
            refine doL_nil ?_
            refine post_block_normal ?_
            refine post_then ?_
            refine doC_seq ?_
            refine doC_region ?_
            refine doL_v (opV_loadA 5 ty70 rfl rfl rfl) rfl rfl rfl ?_
            refine doL_store 4 ty70 rfl rfl rfl rfl rfl rfl rfl rfl ?_
            refine doL_nil ?_
            refine post_then ?_
            refine doC_ret ?_
            refine post_rets (rs := [.cell 4 70]) rfl (resC (resIs_cell 4 rfl rfl ty70 rfl) (resN)) ?_
            subst_vars; rfl
          ·
            have hk5 : ¬ kindOf (srcR L (i + 2) 8) = 5 := by have := of_decide_eq_false hc55_2; rw [hr19] at this; exact this
            rw [jointOf_tu hk0 (by omega)]
            first | rw [jBase_a hp hi, jQ_pos hi] | rw [jBase_b hp hi, jQ_neg hi] | rw [jBase_c hp hi, jQ_pos hi] | rw [jBase_d hp hi, jQ_neg hi]
            refine doC_region ?_
            refine doL_v (opV_move rfl) rfl rfl rfl ?_
            refine doL_srcA (F := vI) hs en30 rfl (fun w' h => srcNext _ (by first | omega | assumption | (unfold In64; omega) | decide) w' h) rfl rfl ?_; intro r39 hr39
            have br39 := srcR_b hr39 (by first | decide | omega)
            refine doL_v (opV_neg rfl (by first | exact neg_in ⟨by omega, by omega⟩ | rfl)) rfl rfl rfl ?_
            refine doL_v (opV_mul rfl rfl (by first | exact i64_in ⟨by omega, by omega⟩ | rfl)) rfl rfl rfl ?_
            refine doL_v (opV_quo rfl rfl (by first | decide | omega) (quo8 (by omega))) rfl rfl rfl ?_
            refine doL_v (opV_move rfl) rfl rfl rfl ?_
            refine doL_srcA (F := vI) hs en30 rfl (fun w' h => srcNext _ (by first | omega | assumption | (unfold In64; omega) | decide) w' h) rfl rfl ?_; intro r44 hr44
            have br44 := srcR_b hr44 (by first | decide | omega)
            refine doL_v (opV_add rfl rfl (by first | exact i64_in ⟨by omega, by omega⟩ | rfl)) rfl rfl rfl ?_
            refine doL_v (opV_mul rfl rfl (by first | exact i64_in ⟨by omega, by omega⟩ | rfl)) rfl rfl rfl ?_
            refine doL_v (opV_quo rfl rfl (by first | decide | omega) (quo8 (by omega))) rfl rfl rfl ?_
            refine doL_v (opV_move rfl) rfl rfl rfl ?_
            refine doL_srcA (F := vI) hs en30 rfl (fun w' h => srcNext _ (by first | omega | assumption | (unfold In64; omega) | decide) w' h) rfl rfl ?_; intro r49 hr49
            have br49 := srcR_b hr49 (by first | decide | omega)
            refine doL_v (opV_add rfl rfl (hi8 br44 br49)) rfl rfl rfl ?_
            refine doL_v (opV_fieldAddr fa70_4 rfl) rfl rfl rfl ?_
            refine doL_store 5 ty2 rfl rfl rfl rfl rfl rfl rfl rfl ?_
            refine doL_v (opV_fieldAddr fa70_5 rfl) rfl rfl rfl ?_
            refine doL_store 5 ty2 rfl rfl rfl rfl rfl rfl rfl rfl ?_
            refine doL_nil ?_
            refine post_block_normal ?_
            refine post_then ?_
            refine doC_seq ?_
            refine doC_region ?_
            refine doL_v (opV_loadA 5 ty70 rfl rfl rfl) rfl rfl rfl ?_
            refine doL_store 4 ty70 rfl rfl rfl rfl rfl rfl rfl rfl ?_
            refine doL_nil ?_
            refine post_then ?_
            refine doC_ret ?_
            refine post_rets (rs := [.cell 4 70]) rfl (resC (resIs_cell 4 rfl rfl ty70 rfl) (resN)) ?_
            subst_vars; rfl
    ·
      have hi : ¬ 0 < k := of_decide_eq_false hc27
      refine doC_skip ?_
      refine post_then ?_
      refine doC_seq ?_
      refine doC_seq ?_
      refine doC_region ?_
      refine doL_v (opV_fieldAddr fa70_1 rfl) rfl rfl rfl ?_
      refine doL_v (opV_load1 5 ty3 rfl rfl rfl) rfl rfl rfl ?_
      refine doL_nil ?_
      refine post_then ?_
      refine doC_block ?_
      refine doC_seq ?_
      refine doC_region ?_
      refine doL_v (opV_eql rfl rfl) rfl rfl rfl ?_
      refine doL_v (opV_assign rfl) rfl rfl rfl ?_
      refine doL_nil ?_
      refine post_then ?_
      refine doC_cond rfl (fun hc53 => ?_) (fun hc53 => ?_)
      ·
        have hk0 : kindOf (srcR L (i + 2) 8) = 0 := by have := of_decide_eq_true hc53; rw [hr19] at this; exact this
        rw [jointOf_fix hk0]
        first | rw [jBase_a hp hi, jQ_pos hi] | rw [jBase_b hp hi, jQ_neg hi] | rw [jBase_c hp hi, jQ_pos hi] | rw [jBase_d hp hi, jQ_neg hi]
        refine doC_skip ?_
        refine post_block_normal ?_
        refine post_then ?_
        refine doC_seq ?_
        refine doC_region ?_
        refine doL_v (opV_loadA 5 ty70 rfl rfl rfl) rfl rfl rfl ?_
        refine doL_store 4 ty70 rfl rfl rfl rfl rfl rfl rfl rfl ?_
        refine doL_nil ?_
        refine post_then ?_
        refine doC_ret ?_
        refine post_rets (rs := [.cell 4 70]) rfl (resC (resIs_cell 4 rfl rfl ty70 rfl) (resN)) ?_
        subst_vars; rfl
      ·
        have hk0 : ¬ kindOf (srcR L (i + 2) 8) = 0 := by have := of_decide_eq_false hc53; rw [hr19] at this; exact this
        refine doC_seq ?_
        refine doC_seq ?_
        refine doC_region ?_
        refine doL_v (opV_eql rfl rfl) rfl rfl rfl ?_
        refine doL_v (opV_assign rfl) rfl rfl rfl ?_
        refine doL_nil ?_
        refine post_then ?_
        refine doC_cond rfl (fun hc55 => ?_) (fun hc55 => ?_)
        ·
          have hk4 : kindOf (srcR L (i + 2) 8) = 4 := by have := of_decide_eq_true hc55; rw [hr19] at this; exact this
          rw [jointOf_sl (.inl hk4)]
          first | rw [jBase_a hp hi, jQ_pos hi] | rw [jBase_b hp hi, jQ_neg hi] | rw [jBase_c hp hi, jQ_pos hi] | rw [jBase_d hp hi, jQ_neg hi]
          refine doC_skip ?_
          refine post_then ?_
          refine doC_cond_t rfl (hc55) ?_
          refine doC_region ?_
          refine doL_v (opV_move rfl) rfl rfl rfl ?_
          refine doL_srcA (F := vI) hs en30 rfl (fun w' h => srcNext _ (by first | omega | assumption | (unfold In64; omega) | decide) w' h) rfl rfl ?_; intro r59 hr59
          have br59 := srcR_b hr59 (by first | decide | omega)
          refine doL_v (opV_neg rfl (by first | exact neg_in ⟨by omega, by omega⟩ | rfl)) rfl rfl rfl ?_
          refine doL_v (opV_mul rfl rfl (by first | exact i64_in ⟨by omega, by omega⟩ | rfl)) rfl rfl rfl ?_
          refine doL_v (opV_move rfl) rfl rfl rfl ?_
          refine doL_srcA (F := vI) hs en30 rfl (fun w' h => srcNext _ (by first | omega | assumption | (unfold In64; omega) | decide) w' h) rfl rfl ?_; intro r63 hr63
          have br63 := srcR_b hr63 (by first | decide | omega)
          refine doL_v (opV_mul rfl rfl (by first | exact i64_in ⟨by omega, by omega⟩ | rfl)) rfl rfl rfl ?_
          refine doL_v (opV_fieldAddr fa70_4 rfl) rfl rfl rfl ?_
          refine doL_store 5 ty2 rfl rfl rfl rfl rfl rfl rfl rfl ?_
          refine doL_v (opV_fieldAddr fa70_5 rfl) rfl rfl rfl ?_
          refine doL_store 5 ty2 rfl rfl rfl rfl rfl rfl rfl rfl ?_
          refine doL_nil ?_
          refine post_block_normal ?_
          refine post_then ?_
          refine doC_seq ?_
          refine doC_region ?_
          refine doL_v (opV_loadA 5 ty70 rfl rfl rfl) rfl rfl rfl ?_
          refine doL_store 4 ty70 rfl rfl rfl rfl rfl rfl rfl rfl ?_
          refine doL_nil ?_
          refine post_then ?_
          refine doC_ret ?_
          refine post_rets (rs := [.cell 4 70]) rfl (resC (resIs_cell 4 rfl rfl ty70 rfl) (resN)) ?_
          subst_vars; rfl
        ·
          have hk4 : ¬ kindOf (srcR L (i + 2) 8) = 4 := by have := of_decide_eq_false hc55; rw [hr19] at this; exact this
          refine doC_region ?_
          refine doL_v (opV_eql rfl rfl) rfl rfl rfl ?_
          refine doL_v (opV_assign rfl) rfl rfl rfl ?_
          refine doL_nil ?_
          refine post_then ?_
          refine doC_cond rfl (fun hc55_2 => ?_) (fun hc55_2 => ?_)
          ·
            have hk5 : kindOf (srcR L (i + 2) 8) = 5 := by have := of_decide_eq_true hc55_2; rw [hr19] at this; exact this
            rw [jointOf_sl (.inr hk5)]
            first | rw [jBase_a hp hi, jQ_pos hi] | rw [jBase_b hp hi, jQ_neg hi] | rw [jBase_c hp hi, jQ_pos hi] | rw [jBase_d hp hi, jQ_neg hi]
            refine doC_region ?_
            refine doL_v (opV_move rfl) rfl rfl rfl ?_
            refine doL_srcA (F := vI) hs en30 rfl (fun w' h => srcNext _ (by first | omega | assumption | (unfold In64; omega) | decide) w' h) rfl rfl ?_; intro r59 hr59
            have br59 := srcR_b hr59 (by first | decide | omega)
            refine doL_v (opV_neg rfl (by first | exact neg_in ⟨by omega, by omega⟩ | rfl)) rfl rfl rfl ?_
            refine doL_v (opV_mul rfl rfl (by first | exact i64_in ⟨by omega, by omega⟩ | rfl)) rfl rfl rfl ?_
            refine doL_v (opV_move rfl) rfl rfl rfl ?_
            refine doL_srcA (F := vI) hs en30 rfl (fun w' h => srcNext _ (by first | omega | assumption | (unfold In64; omega) | decide) w' h) rfl rfl ?_; intro r63 hr63
            have br63 := srcR_b hr63 (by first | decide | omega)
            refine doL_v (opV_mul rfl rfl (by first | exact i64_in ⟨by omega, by omega⟩ | rfl)) rfl rfl rfl ?_
            refine doL_v (opV_fieldAddr fa70_4 rfl) rfl rfl rfl ?_
            refine doL_store 5 ty2 rfl rfl rfl rfl rfl rfl rfl rfl ?_
            refine doL_v (opV_fieldAddr fa70_5 rfl) rfl rfl rfl ?_
            refine doL_store 5 ty2 rfl rfl rfl rfl rfl rfl rfl rfl ?_
            refine doL_nil ?_
            refine post_block_normal ?_
            refine post_then ?_
            refine doC_seq ?_
            refine doC_region ?_
            refine doL_v (opV_loadA 5 ty70 rfl rfl rfl) rfl rfl rfl ?_
            refine doL_store 4 ty70 rfl rfl rfl rfl rfl rfl rfl rfl ?_
            refine doL_nil ?_
            refine post_then ?_
            refine doC_ret ?_
            refine post_rets (rs := [.cell 4 70]) rfl (resC (resIs_cell 4 rfl rfl ty70 rfl) (resN)) ?_
            subst_vars; rfl
          ·
            have hk5 : ¬ kindOf (srcR L (i + 2) 8) = 5 := by have := of_decide_eq_false hc55_2; rw [hr19] at this; exact this
            rw [jointOf_tu hk0 (by omega)]
            first | rw [jBase_a hp hi, jQ_pos hi] | rw [jBase_b hp hi, jQ_neg hi] | rw [jBase_c hp hi, jQ_pos hi] | rw [jBase_d hp hi, jQ_neg hi]
            refine doC_region ?_
            refine doL_v (opV_move rfl) rfl rfl rfl ?_
            refine doL_srcA (F := vI) hs en30 rfl (fun w' h => srcNext _ (by first | omega | assumption | (unfold In64; omega) | decide) w' h) rfl rfl ?_; intro r39 hr39
            have br39 := srcR_b hr39 (by first | decide | omega)
            refine doL_v (opV_neg rfl (by first | exact neg_in ⟨by omega, by omega⟩ | rfl)) rfl rfl rfl ?_
            refine doL_v (opV_mul rfl rfl (by first | exact i64_in ⟨by omega, by omega⟩ | rfl)) rfl rfl rfl ?_
            refine doL_v (opV_quo rfl rfl (by first | decide | omega) (quo8 (by omega))) rfl rfl rfl ?_
            refine doL_v (opV_move rfl) rfl rfl rfl ?_
            refine doL_srcA (F := vI) hs en30 rfl (fun w' h => srcNext _ (by first | omega | assumption | (unfold In64; omega) | decide) w' h) rfl rfl ?_; intro r44 hr44
            have br44 := srcR_b hr44 (by first | decide | omega)
            refine doL_v (opV_add rfl rfl (by first | exact i64_in ⟨by omega, by omega⟩ | rfl)) rfl rfl rfl ?_
            refine doL_v (opV_mul rfl rfl (by first | exact i64_in ⟨by omega, by omega⟩ | rfl)) rfl rfl rfl ?_
            refine doL_v (opV_quo rfl rfl (by first | decide | omega) (quo8 (by omega))) rfl rfl rfl ?_
            refine doL_v (opV_move rfl) rfl rfl rfl ?_
            refine doL_srcA (F := vI) hs en30 rfl (fun w' h => srcNext _ (by first | omega | assumption | (unfold In64; omega) | decide) w' h) rfl rfl ?_; intro r49 hr49
            have br49 := srcR_b hr49 (by first | decide | omega)
            refine doL_v (opV_add rfl rfl (hi8 br44 br49)) rfl rfl rfl ?_
            refine doL_v (opV_fieldAddr fa70_4 rfl) rfl rfl rfl ?_
            refine doL_store 5 ty2 rfl rfl rfl rfl rfl rfl rfl rfl ?_
            refine doL_v (opV_fieldAddr fa70_5 rfl) rfl rfl rfl ?_
            refine doL_store 5 ty2 rfl rfl rfl rfl rfl rfl rfl rfl ?_
            refine doL_nil ?_
            refine post_block_normal ?_
            refine post_then ?_
            refine doC_seq ?_
            refine doC_region ?_
            refine doL_v (opV_loadA 5 ty70 rfl rfl rfl) rfl rfl rfl ?_
            refine doL_store 4 ty70 rfl rfl rfl rfl rfl rfl rfl rfl ?_
            refine doL_nil ?_
            refine post_then ?_
            refine doC_ret ?_
            refine post_rets (rs := [.cell 4 70]) rfl (resC (resIs_cell 4 rfl rfl ty70 rfl) (resN)) ?_
            subst_vars; rfl

end Go.Proofs.Ytonampcmhhhffaa

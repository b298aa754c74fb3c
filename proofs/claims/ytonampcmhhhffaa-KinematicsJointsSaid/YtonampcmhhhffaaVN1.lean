/- What the motions of joints compute. No condition. -/
import Derived.Test.YtonampcmhhhffaaProg
import Derived.Test.YtonampcmhhhffaaVKin
import Derived.Test.YtonampcmhhhffaaVA1
import Derived.Test.YtonampcmhhhffaaVA2
import Derived.Test.YtonampcmhhhffaaVM1
import Derived.Test.YtonampcmhhhffaaVM2
import Derived.Test.YtonampcmhhhffaaVP1
namespace Go.Proofs.Ytonampcmhhhffaa
open Go.Sx
theorem en63 : Enters Try.prog 63 := enters_of Try.func63 (by kernel_rfl) (by kernel_rfl)
theorem en61 : Enters Try.prog 61 := enters_of Try.func61 (by kernel_rfl) (by kernel_rfl)
theorem ze121 : zeroIs Try.prog 121 (.agg #[.nilFunc]) := by unfold zeroIs; kernel_rfl
theorem la121 : layoutOf Try.prog 121 = some ([.nilFunc], [(0, 1)]) := by kernel_rfl
theorem ty121 : tyB Try.prog 121 true 1 = true := by kernel_rfl
theorem fa70_3 : fieldB Try.prog 70 3 3 = true := by kernel_rfl
theorem ty38 : tyB Try.prog 38 true 3 = true := by kernel_rfl
theorem fa70_1 : fieldB Try.prog 70 1 1 = true := by kernel_rfl
theorem ty3 : tyB Try.prog 3 false 1 = true := by kernel_rfl
theorem en101 : Enters Try.prog 101 := enters_of Try.func101 (by kernel_rfl) (by kernel_rfl)
theorem fl121_0 : fldB Try.prog 121 0 0 = true := by kernel_rfl
theorem en51 : Enters Try.prog 51 := enters_of Try.func51 (by kernel_rfl) (by kernel_rfl)

theorem kTurn (k : Int) (a0 a1 : Int) (w : World) : Calls Try.prog 129 [.int .i64 k, .agg #[.int .i64 a0, .int .i64 a1]].toArray w (Rets (po (Po.turn k (⟨a0, a1⟩ : Iv))) (w)) := by
  refine calls_of_doC (n := 8) Try.func129 rfl rfl rfl ?_
  refine doC_seq ?_
  refine doC_region ?_
  refine doL_box 3 rfl rfl rfl rfl ?_; intro b3
  refine doL_alloc 4 ze63 rfl rfl rfl ?_; intro b4
  refine doL_nil ?_
  refine post_then ?_
  refine doC_seq ?_
  refine doC_region ?_
  refine doL_v (opV_move rfl) rfl rfl rfl ?_
  refine doL_v (opV_loadA 3 ty23 rfl rfl rfl) rfl rfl rfl ?_
  refine doL_vg (F := po) (opV_call en63 rfl (fun w _ => pTurn _ _ _  w)) rfl rfl rfl ?_; intro r7 hr7
  refine doL_store 4 ty63 rfl rfl rfl rfl rfl rfl rfl rfl ?_
  refine doL_nil ?_
  refine post_then ?_
  refine doC_ret ?_
  refine post_rets (rs := [.cell 4 63]) rfl (resC (resIs_cell 4 rfl rfl ty63 rfl) (resN)) (congrArg (po) (?_ : ⟨⟨⟨⟨_, _⟩, ⟨_, _⟩, ⟨_, _⟩⟩, ⟨⟨_, _⟩, ⟨_, _⟩, ⟨_, _⟩⟩, ⟨⟨_, _⟩, ⟨_, _⟩, ⟨_, _⟩⟩⟩, ⟨⟨_, _⟩, ⟨_, _⟩, ⟨_, _⟩⟩⟩ = Po.turn k (⟨a0, a1⟩ : Iv)))
  subst_vars; rfl

theorem kSlide (k : Int) (a0 a1 : Int) (hk : 0 ≤ k ∧ k ≤ 2) (w : World) : Calls Try.prog 130 [.int .i64 k, .agg #[.int .i64 a0, .int .i64 a1]].toArray w (Rets (po (Po.shift (V3.put k (⟨a0, a1⟩ : Iv)))) (w)) := by
  refine calls_of_doC (n := 11) Try.func130 rfl rfl rfl ?_
  refine doC_seq ?_
  refine doC_region ?_
  refine doL_box 3 rfl rfl rfl rfl ?_; intro b3
  refine doL_alloc 4 ze63 rfl rfl rfl ?_; intro b4
  refine doL_nil ?_
  refine post_then ?_
  refine doC_seq ?_
  refine doC_region ?_
  refine doL_alloc 5 ze34 rfl rfl rfl ?_; intro b5
  refine doL_nil ?_
  refine post_then ?_
  refine doC_seq ?_
  rcases (show k = 0 ∨ k = 1 ∨ k = 2 by omega) with rfl | rfl | rfl
  ·
    refine doC_region ?_
    refine doL_v (opV_move rfl) rfl rfl rfl ?_
    refine doL_v (opV_loadA 3 ty23 rfl rfl rfl) rfl rfl rfl ?_
    refine doL_v (opV_indexAddr ar34 rfl rfl (by first | decide | omega) (by first | decide | omega)) rfl rfl rfl ?_
    refine doL_store 5 ty23 rfl rfl rfl rfl rfl rfl rfl rfl ?_
    refine doL_nil ?_
    refine post_then ?_
    refine doC_seq ?_
    refine doC_region ?_
    refine doL_v (opV_loadA 5 ty34 rfl rfl rfl) rfl rfl rfl ?_
    refine doL_vg (F := po) (opV_call en53 rfl (fun w _ => pShift _ _ _ _ _ _  w)) rfl rfl rfl ?_; intro r10 hr10
    refine doL_store 4 ty63 rfl rfl rfl rfl rfl rfl rfl rfl ?_
    refine doL_nil ?_
    refine post_then ?_
    refine doC_ret ?_
    refine post_rets (rs := [.cell 4 63]) rfl (resC (resIs_cell 4 rfl rfl ty63 rfl) (resN)) (congrArg (po) (?_ : ⟨⟨⟨⟨_, _⟩, ⟨_, _⟩, ⟨_, _⟩⟩, ⟨⟨_, _⟩, ⟨_, _⟩, ⟨_, _⟩⟩, ⟨⟨_, _⟩, ⟨_, _⟩, ⟨_, _⟩⟩⟩, ⟨⟨_, _⟩, ⟨_, _⟩, ⟨_, _⟩⟩⟩ = Po.shift (V3.put 0 (⟨a0, a1⟩ : Iv))))
    subst_vars; rfl
  ·
    refine doC_region ?_
    refine doL_v (opV_move rfl) rfl rfl rfl ?_
    refine doL_v (opV_loadA 3 ty23 rfl rfl rfl) rfl rfl rfl ?_
    refine doL_v (opV_indexAddr ar34 rfl rfl (by first | decide | omega) (by first | decide | omega)) rfl rfl rfl ?_
    refine doL_store 5 ty23 rfl rfl rfl rfl rfl rfl rfl rfl ?_
    refine doL_nil ?_
    refine post_then ?_
    refine doC_seq ?_
    refine doC_region ?_
    refine doL_v (opV_loadA 5 ty34 rfl rfl rfl) rfl rfl rfl ?_
    refine doL_vg (F := po) (opV_call en53 rfl (fun w _ => pShift _ _ _ _ _ _  w)) rfl rfl rfl ?_; intro r10 hr10
    refine doL_store 4 ty63 rfl rfl rfl rfl rfl rfl rfl rfl ?_
    refine doL_nil ?_
    refine post_then ?_
    refine doC_ret ?_
    refine post_rets (rs := [.cell 4 63]) rfl (resC (resIs_cell 4 rfl rfl ty63 rfl) (resN)) (congrArg (po) (?_ : ⟨⟨⟨⟨_, _⟩, ⟨_, _⟩, ⟨_, _⟩⟩, ⟨⟨_, _⟩, ⟨_, _⟩, ⟨_, _⟩⟩, ⟨⟨_, _⟩, ⟨_, _⟩, ⟨_, _⟩⟩⟩, ⟨⟨_, _⟩, ⟨_, _⟩, ⟨_, _⟩⟩⟩ = Po.shift (V3.put 1 (⟨a0, a1⟩ : Iv))))
    subst_vars; rfl
  ·
    refine doC_region ?_
    refine doL_v (opV_move rfl) rfl rfl rfl ?_
    refine doL_v (opV_loadA 3 ty23 rfl rfl rfl) rfl rfl rfl ?_
    refine doL_v (opV_indexAddr ar34 rfl rfl (by first | decide | omega) (by first | decide | omega)) rfl rfl rfl ?_
    refine doL_store 5 ty23 rfl rfl rfl rfl rfl rfl rfl rfl ?_
    refine doL_nil ?_
    refine post_then ?_
    refine doC_seq ?_
    refine doC_region ?_
    refine doL_v (opV_loadA 5 ty34 rfl rfl rfl) rfl rfl rfl ?_
    refine doL_vg (F := po) (opV_call en53 rfl (fun w _ => pShift _ _ _ _ _ _  w)) rfl rfl rfl ?_; intro r10 hr10
    refine doL_store 4 ty63 rfl rfl rfl rfl rfl rfl rfl rfl ?_
    refine doL_nil ?_
    refine post_then ?_
    refine doC_ret ?_
    refine post_rets (rs := [.cell 4 63]) rfl (resC (resIs_cell 4 rfl rfl ty63 rfl) (resN)) (congrArg (po) (?_ : ⟨⟨⟨⟨_, _⟩, ⟨_, _⟩, ⟨_, _⟩⟩, ⟨⟨_, _⟩, ⟨_, _⟩, ⟨_, _⟩⟩, ⟨⟨_, _⟩, ⟨_, _⟩, ⟨_, _⟩⟩⟩, ⟨⟨_, _⟩, ⟨_, _⟩, ⟨_, _⟩⟩⟩ = Po.shift (V3.put 2 (⟨a0, a1⟩ : Iv))))
    subst_vars; rfl

theorem kRest (k : Int) (a0 a1 : Int) (w : World) : Calls Try.prog 131 [.int .i64 k, .agg #[.int .i64 a0, .int .i64 a1]].toArray w (Rets (po (Po.rest)) (w)) := by
  refine calls_of_doC (n := 6) Try.func131 rfl rfl rfl ?_
  refine doC_seq ?_
  refine doC_region ?_
  refine doL_box 3 rfl rfl rfl rfl ?_; intro b3
  refine doL_alloc 4 ze63 rfl rfl rfl ?_; intro b4
  refine doL_nil ?_
  refine post_then ?_
  refine doC_seq ?_
  refine doC_region ?_
  refine doL_vg (F := po) (opV_call en61 rfl (fun w _ => pIdentity   w)) rfl rfl rfl ?_; intro r5 hr5
  refine doL_store 4 ty63 rfl rfl rfl rfl rfl rfl rfl rfl ?_
  refine doL_nil ?_
  refine post_then ?_
  refine doC_ret ?_
  refine post_rets (rs := [.cell 4 63]) rfl (resC (resIs_cell 4 rfl rfl ty63 rfl) (resN)) (congrArg (po) (?_ : ⟨⟨⟨⟨_, _⟩, ⟨_, _⟩, ⟨_, _⟩⟩, ⟨⟨_, _⟩, ⟨_, _⟩, ⟨_, _⟩⟩, ⟨⟨_, _⟩, ⟨_, _⟩, ⟨_, _⟩⟩⟩, ⟨⟨_, _⟩, ⟨_, _⟩, ⟨_, _⟩⟩⟩ = Po.rest))
  subst_vars; rfl

theorem kMotion (k : Int) (w : World) : Calls Try.prog 101 [.int .i64 k].toArray w (Rets (motV 129 130 131 k) w) := by
  refine calls_of_doC (n := 22) Try.func101 rfl rfl rfl ?_
  refine doC_seq ?_
  refine doC_region ?_
  refine doL_alloc 2 ze121 rfl rfl rfl ?_; intro b2
  refine doL_nil ?_
  refine post_then ?_
  refine doC_seq ?_
  refine doC_seq ?_
  refine doC_region ?_
  refine doL_v (opV_move rfl) rfl rfl rfl ?_
  refine doL_nil ?_
  refine post_then ?_
  refine doC_block ?_
  refine doC_seq ?_
  refine doC_seq ?_
  refine doC_region ?_
  refine doL_v (opV_eql rfl rfl) rfl rfl rfl ?_
  refine doL_v (opV_assign rfl) rfl rfl rfl ?_
  refine doL_nil ?_
  refine post_then ?_
  refine doC_cond rfl (fun hc4 => ?_) (fun hc4 => ?_)
  ·
    have e := of_decide_eq_true hc4
    refine doC_skip ?_
    refine post_then ?_
    refine doC_cond_t rfl (hc4) ?_
    refine doC_seq ?_
    refine doC_region ?_
    refine doL_v (opV_move rfl) rfl rfl rfl ?_
    refine doL_v (opV_sub rfl rfl (by first | exact i64_in ⟨by omega, by omega⟩ | rfl)) rfl rfl rfl ?_
    refine doL_v (opV_makeFunc rfl rfl) rfl rfl rfl ?_
    refine doL_v (opV_build la121 rfl rfl) rfl rfl rfl ?_
    refine doL_store 2 ty121 rfl rfl rfl rfl rfl rfl rfl rfl ?_
    refine doL_nil ?_
    refine post_then ?_
    refine doC_ret ?_
    refine post_block_ret ?_
    refine post_then_ret ?_
    refine post_ret (rs := [.cell 2 121]) rfl (resC (resIs_cell 2 rfl rfl ty121 rfl) (resN)) rfl ?_
    intro w2 kn
    exact ⟨congrArg Ending.returned (by first | exact (mot_t (by omega)).symm | exact (mot_s (by omega)).symm | exact (mot_r (by omega) (by omega)).symm), kn.grow⟩
  ·
    have e := of_decide_eq_false hc4
    refine doC_seq ?_
    refine doC_region ?_
    refine doL_v (opV_eql rfl rfl) rfl rfl rfl ?_
    refine doL_v (opV_assign rfl) rfl rfl rfl ?_
    refine doL_nil ?_
    refine post_then ?_
    refine doC_cond rfl (fun hc4_2 => ?_) (fun hc4_2 => ?_)
    ·
      have e := of_decide_eq_true hc4_2
      refine doC_skip ?_
      refine post_then ?_
      refine doC_cond_t rfl (hc4_2) ?_
      refine doC_seq ?_
      refine doC_region ?_
      refine doL_v (opV_move rfl) rfl rfl rfl ?_
      refine doL_v (opV_sub rfl rfl (by first | exact i64_in ⟨by omega, by omega⟩ | rfl)) rfl rfl rfl ?_
      refine doL_v (opV_makeFunc rfl rfl) rfl rfl rfl ?_
      refine doL_v (opV_build la121 rfl rfl) rfl rfl rfl ?_
      refine doL_store 2 ty121 rfl rfl rfl rfl rfl rfl rfl rfl ?_
      refine doL_nil ?_
      refine post_then ?_
      refine doC_ret ?_
      refine post_block_ret ?_
      refine post_then_ret ?_
      refine post_ret (rs := [.cell 2 121]) rfl (resC (resIs_cell 2 rfl rfl ty121 rfl) (resN)) rfl ?_
      intro w2 kn
      exact ⟨congrArg Ending.returned (by first | exact (mot_t (by omega)).symm | exact (mot_s (by omega)).symm | exact (mot_r (by omega) (by omega)).symm), kn.grow⟩
    ·
      have e := of_decide_eq_false hc4_2
      refine doC_region ?_
      refine doL_v (opV_eql rfl rfl) rfl rfl rfl ?_
      refine doL_v (opV_assign rfl) rfl rfl rfl ?_
      refine doL_nil ?_
      refine post_then ?_
      refine doC_cond rfl (fun hc4_3 => ?_) (fun hc4_3 => ?_)
      ·
        have e := of_decide_eq_true hc4_3
        refine doC_seq ?_
        refine doC_region ?_
        refine doL_v (opV_move rfl) rfl rfl rfl ?_
        refine doL_v (opV_sub rfl rfl (by first | exact i64_in ⟨by omega, by omega⟩ | rfl)) rfl rfl rfl ?_
        refine doL_v (opV_makeFunc rfl rfl) rfl rfl rfl ?_
        refine doL_v (opV_build la121 rfl rfl) rfl rfl rfl ?_
        refine doL_store 2 ty121 rfl rfl rfl rfl rfl rfl rfl rfl ?_
        refine doL_nil ?_
        refine post_then ?_
        refine doC_ret ?_
        refine post_block_ret ?_
        refine post_then_ret ?_
        refine post_ret (rs := [.cell 2 121]) rfl (resC (resIs_cell 2 rfl rfl ty121 rfl) (resN)) rfl ?_
        intro w2 kn
        exact ⟨congrArg Ending.returned (by first | exact (mot_t (by omega)).symm | exact (mot_s (by omega)).symm | exact (mot_r (by omega) (by omega)).symm), kn.grow⟩
      ·
        have e := of_decide_eq_false hc4_3
        refine doC_seq ?_
        refine doC_seq ?_
        refine doC_region ?_
        refine doL_v (opV_eql rfl rfl) rfl rfl rfl ?_
        refine doL_v (opV_assign rfl) rfl rfl rfl ?_
        refine doL_nil ?_
        refine post_then ?_
        refine doC_cond rfl (fun hc12 => ?_) (fun hc12 => ?_)
        ·
          have e := of_decide_eq_true hc12
          refine doC_skip ?_
          refine post_then ?_
          refine doC_cond_t rfl (hc12) ?_
          refine doC_seq ?_
          refine doC_region ?_
          refine doL_v (opV_move rfl) rfl rfl rfl ?_
          refine doL_v (opV_sub rfl rfl (by first | exact i64_in ⟨by omega, by omega⟩ | rfl)) rfl rfl rfl ?_
          refine doL_v (opV_makeFunc rfl rfl) rfl rfl rfl ?_
          refine doL_v (opV_build la121 rfl rfl) rfl rfl rfl ?_
          refine doL_store 2 ty121 rfl rfl rfl rfl rfl rfl rfl rfl ?_
          refine doL_nil ?_
          refine post_then ?_
          refine doC_ret ?_
          refine post_block_ret ?_
          refine post_then_ret ?_
          refine post_ret (rs := [.cell 2 121]) rfl (resC (resIs_cell 2 rfl rfl ty121 rfl) (resN)) rfl ?_
          intro w2 kn
          exact ⟨congrArg Ending.returned (by first | exact (mot_t (by omega)).symm | exact (mot_s (by omega)).symm | exact (mot_r (by omega) (by omega)).symm), kn.grow⟩
        ·
          have e := of_decide_eq_false hc12
          refine doC_seq ?_
          refine doC_region ?_
          refine doL_v (opV_eql rfl rfl) rfl rfl rfl ?_
          refine doL_v (opV_assign rfl) rfl rfl rfl ?_
          refine doL_nil ?_
          refine post_then ?_
          refine doC_cond rfl (fun hc12_2 => ?_) (fun hc12_2 => ?_)
          ·
            have e := of_decide_eq_true hc12_2
            refine doC_skip ?_
            refine post_then ?_
            refine doC_cond_t rfl (hc12_2) ?_
            refine doC_seq ?_
            refine doC_region ?_
            refine doL_v (opV_move rfl) rfl rfl rfl ?_
            refine doL_v (opV_sub rfl rfl (by first | exact i64_in ⟨by omega, by omega⟩ | rfl)) rfl rfl rfl ?_
            refine doL_v (opV_makeFunc rfl rfl) rfl rfl rfl ?_
            refine doL_v (opV_build la121 rfl rfl) rfl rfl rfl ?_
            refine doL_store 2 ty121 rfl rfl rfl rfl rfl rfl rfl rfl ?_
            refine doL_nil ?_
            refine post_then ?_
            refine doC_ret ?_
            refine post_block_ret ?_
            refine post_then_ret ?_
            refine post_ret (rs := [.cell 2 121]) rfl (resC (resIs_cell 2 rfl rfl ty121 rfl) (resN)) rfl ?_
            intro w2 kn
            exact ⟨congrArg Ending.returned (by first | exact (mot_t (by omega)).symm | exact (mot_s (by omega)).symm | exact (mot_r (by omega) (by omega)).symm), kn.grow⟩
          ·
            have e := of_decide_eq_false hc12_2
            refine doC_region ?_
            refine doL_v (opV_eql rfl rfl) rfl rfl rfl ?_
            refine doL_v (opV_assign rfl) rfl rfl rfl ?_
            refine doL_nil ?_
            refine post_then ?_
            refine doC_cond rfl (fun hc12_3 => ?_) (fun hc12_3 => ?_)
            ·
              have e := of_decide_eq_true hc12_3
              refine doC_seq ?_
              refine doC_region ?_
              refine doL_v (opV_move rfl) rfl rfl rfl ?_
              refine doL_v (opV_sub rfl rfl (by first | exact i64_in ⟨by omega, by omega⟩ | rfl)) rfl rfl rfl ?_
              refine doL_v (opV_makeFunc rfl rfl) rfl rfl rfl ?_
              refine doL_v (opV_build la121 rfl rfl) rfl rfl rfl ?_
              refine doL_store 2 ty121 rfl rfl rfl rfl rfl rfl rfl rfl ?_
              refine doL_nil ?_
              refine post_then ?_
              refine doC_ret ?_
              refine post_block_ret ?_
              refine post_then_ret ?_
              refine post_ret (rs := [.cell 2 121]) rfl (resC (resIs_cell 2 rfl rfl ty121 rfl) (resN)) rfl ?_
              intro w2 kn
              exact ⟨congrArg Ending.returned (by first | exact (mot_t (by omega)).symm | exact (mot_s (by omega)).symm | exact (mot_r (by omega) (by omega)).symm), kn.grow⟩
            ·
              have e := of_decide_eq_false hc12_3
              refine doC_skip ?_
              refine post_block_normal ?_
              refine post_then ?_
              refine doC_seq ?_
              refine doC_region ?_
              refine doL_v (opV_makeFunc rfl rfl) rfl rfl rfl ?_
              refine doL_v (opV_build la121 rfl rfl) rfl rfl rfl ?_
              refine doL_store 2 ty121 rfl rfl rfl rfl rfl rfl rfl rfl ?_
              refine doL_nil ?_
              refine post_then ?_
              refine doC_ret ?_
              refine post_ret (rs := [.cell 2 121]) rfl (resC (resIs_cell 2 rfl rfl ty121 rfl) (resN)) rfl ?_
              intro w2 kn
              exact ⟨congrArg Ending.returned (by first | exact (mot_t (by omega)).symm | exact (mot_s (by omega)).symm | exact (mot_r (by omega) (by omega)).symm), kn.grow⟩

theorem en_t : Enters Try.prog 129 := enters_of Try.func129 (by kernel_rfl) (by kernel_rfl)
theorem en_s : Enters Try.prog 130 := enters_of Try.func130 (by kernel_rfl) (by kernel_rfl)
theorem en_r : Enters Try.prog 131 := enters_of Try.func131 (by kernel_rfl) (by kernel_rfl)
theorem en_mot (k : Int) : Enters Try.prog (if k = 1 ∨ k = 2 ∨ k = 3 then 129 else if k = 4 ∨ k = 5 ∨ k = 6 then 130 else 131) := by
  by_cases h : k = 1 ∨ k = 2 ∨ k = 3
  · rw [if_pos h]; exact en_t
  · by_cases h2 : k = 4 ∨ k = 5 ∨ k = 6
    · rw [if_neg h, if_pos h2]; exact en_s
    · rw [if_neg h, if_neg h2]; exact en_r
theorem kMove (k a0 a1 : Int) (w : World) : Calls Try.prog (if k = 1 ∨ k = 2 ∨ k = 3 then 129 else if k = 4 ∨ k = 5 ∨ k = 6 then 130 else 131) [.int .i64 (if k = 1 ∨ k = 2 ∨ k = 3 then k - 1 else if k = 4 ∨ k = 5 ∨ k = 6 then k - 4 else 0), .agg #[.int .i64 a0, .int .i64 a1]].toArray w (Rets (po (jMot k ⟨a0, a1⟩)) w) := by
  by_cases h : k = 1 ∨ k = 2 ∨ k = 3
  · rw [if_pos h, if_pos h, jMot_t h]; exact kTurn _ _ _ w
  · by_cases h2 : k = 4 ∨ k = 5 ∨ k = 6
    · rw [if_neg h, if_pos h2, if_neg h, if_pos h2, jMot_s h2]; exact kSlide _ _ _ (by omega) w
    · rw [if_neg h, if_neg h2, if_neg h, if_neg h2, jMot_r h h2]; exact kRest _ _ _ w

theorem kJoint (a0 a1 : Int) (nm : ByteArray) (kind par ox oy oz jlo jhi we spd acc tq : Int) (w : World) : Calls Try.prog 59 [.agg #[.string nm, .int .i64 kind, .int .i64 par, .int .i64 ox, .int .i64 oy, .int .i64 oz, .int .i64 jlo, .int .i64 jhi, .int .i64 we, .int .i64 spd, .int .i64 acc, .int .i64 tq], .agg #[.int .i64 a0, .int .i64 a1]].toArray w (Rets (po (jPose kind ⟨ox, oy, oz⟩ (⟨a0, a1⟩ : Iv))) (w)) := by
  refine calls_of_doC (n := 16) Try.func59 rfl rfl rfl ?_
  refine doC_seq ?_
  refine doC_region ?_
  refine doL_box 2 rfl rfl rfl rfl ?_; intro b2
  refine doL_box 3 rfl rfl rfl rfl ?_; intro b3
  refine doL_alloc 4 ze63 rfl rfl rfl ?_; intro b4
  refine doL_nil ?_
  refine post_then ?_
  refine doC_seq ?_
  refine doC_drawn 11 mo (by kernel_rfl) ?_
  simp only [List.take_succ_cons, List.take_zero, List.drop_succ_cons, List.drop_zero]
  refine doG_v (opV_fieldAddr fa70_3 rfl) rfl rfl rfl ?_
  refine doG_v (opV_loadA 2 ty38 rfl rfl rfl) rfl rfl rfl ?_
  refine doG_vg (F := v3) (opV_call en35 rfl (fun w _ => mPoint _ _ _  w)) rfl rfl rfl ?_; intro r7 hr7
  refine doG_vg (F := po) (opV_call en53 rfl (fun w _ => pShift _ _ _ _ _ _  w)) rfl rfl rfl ?_; intro r8 hr8
  refine doG_v (opV_fieldAddr fa70_1 rfl) rfl rfl rfl ?_
  refine doG_v (opV_load1 2 ty3 rfl rfl rfl) rfl rfl rfl ?_
  refine doG_vg (F := motV 129 130 131) (opV_call en101 rfl (fun w _ => kMotion _  w)) rfl rfl rfl ?_; intro r11 hr11
  refine doG_v (opV_field1 fl121_0 rfl rfl) rfl rfl rfl ?_
  refine doG_v (opV_loadA 3 ty23 rfl rfl rfl) rfl rfl rfl ?_
  refine doG_vg (F := po) (opV_callV (en_mot _) rfl rfl rfl (fun w _ => kMove _ _ _ w)) rfl rfl rfl ?_; intro r14 hr14
  refine doG_vg (F := po) (opV_call en51 rfl (fun w _ => pCompose _ _ _ _ _ _ _ _ _ _ _ _ _ _ _ _ _ _ _ _ _ _ _ _ _ _ _ _ _ _ _ _ _ _ _ _ _ _ _ _ _ _ _ _ _ _ _ _  w)) rfl rfl rfl ?_; intro r15 hr15
  refine doG_nil ?_
  refine tail_nil ?_
  refine doL_store 4 ty63 rfl rfl rfl rfl rfl rfl rfl rfl ?_
  refine doL_nil ?_
  refine post_then ?_
  refine doC_ret ?_
  refine post_rets (rs := [.cell 4 63]) rfl (resC (resIs_cell 4 rfl rfl ty63 rfl) (resN)) (congrArg (po) (?_ : ⟨⟨⟨⟨_, _⟩, ⟨_, _⟩, ⟨_, _⟩⟩, ⟨⟨_, _⟩, ⟨_, _⟩, ⟨_, _⟩⟩, ⟨⟨_, _⟩, ⟨_, _⟩, ⟨_, _⟩⟩⟩, ⟨⟨_, _⟩, ⟨_, _⟩, ⟨_, _⟩⟩⟩ = jPose kind ⟨ox, oy, oz⟩ (⟨a0, a1⟩ : Iv)))
  have e8 : r8 = Po.shift r7 := hr8
  have e15 : r15 = Po.mul r8 r14 := hr15
  show r15 = _
  rw [e15, e8, hr7, hr14, hr11]
  rfl

end Go.Proofs.Ytonampcmhhhffaa

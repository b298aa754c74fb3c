/- Part 10 of the texts behind the last one: rules and contracts. No condition. -/
import Derived.Test.YtfoedaolmmadgaaGreatPH9
namespace Go.Proofs.YtfoedaolmmadgaaGreat
open Go.Sx
theorem en176 : Enters Tryz.prog 176 := enters_of Tryz.func176 (by kernel_rfl) (by kernel_rfl)
theorem en177 : Enters Tryz.prog 177 := enters_of Tryz.func177 (by kernel_rfl) (by kernel_rfl)
theorem ze197 : zeroIs Tryz.prog 197 (.agg #[.nilFunc]) := by unfold zeroIs; kernel_rfl
theorem la197 : layoutOf Tryz.prog 197 = some ([.nilFunc], [(0, 1)]) := by kernel_rfl
theorem ty197 : tyB Tryz.prog 197 true 1 = true := by kernel_rfl
theorem fa87_3 : fieldB Tryz.prog 87 3 3 = true := by kernel_rfl
theorem ty29 : tyB Tryz.prog 29 true 3 = true := by kernel_rfl
theorem fa87_1 : fieldB Tryz.prog 87 1 1 = true := by kernel_rfl
theorem ty3 : tyB Tryz.prog 3 false 1 = true := by kernel_rfl
theorem en158 : Enters Tryz.prog 158 := enters_of Tryz.func158 (by kernel_rfl) (by kernel_rfl)
theorem fl197_0 : fldB Tryz.prog 197 0 0 = true := by kernel_rfl
theorem en141 : Enters Tryz.prog 141 := enters_of Tryz.func141 (by kernel_rfl) (by kernel_rfl)
theorem kTurn (k : Int) (a0 a1 : Int) (w : World) : Calls Tryz.prog 166 [.int .i64 k, .agg #[.int .i64 a0, .int .i64 a1]].toArray w (Rets (po (Po.turn k (⟨a0, a1⟩ : Iv))) (w)) := by
  refine calls_of_doC (n := 8) Tryz.func166 rfl rfl rfl ?_
  refine doC_seq ?_
  refine doC_region ?_
  refine doL_box 3 rfl rfl rfl rfl ?_; intro b3
  refine doL_alloc 4 ze134 rfl rfl rfl ?_; intro b4
  refine doL_nil ?_
  refine post_then ?_
  refine doC_seq ?_
  refine doC_region ?_
  refine doL_v (opV_move rfl) rfl rfl rfl ?_
  refine doL_v (opV_loadA 3 ty88 rfl rfl rfl) rfl rfl rfl ?_
  refine doL_vg (F := po) (opV_call en176 rfl (fun w _ => pTurn _ _ _  w)) rfl rfl rfl ?_; intro r7 hr7
  refine doL_store 4 ty134 rfl rfl rfl rfl rfl rfl rfl rfl ?_
  refine doL_nil ?_
  refine post_then ?_
  refine doC_ret ?_
  refine post_rets (rs := [.cell 4 134]) rfl (resC (resIs_cell 4 rfl rfl ty134 rfl) (resN)) (congrArg (po) (?_ : ⟨⟨⟨⟨_, _⟩, ⟨_, _⟩, ⟨_, _⟩⟩, ⟨⟨_, _⟩, ⟨_, _⟩, ⟨_, _⟩⟩, ⟨⟨_, _⟩, ⟨_, _⟩, ⟨_, _⟩⟩⟩, ⟨⟨_, _⟩, ⟨_, _⟩, ⟨_, _⟩⟩⟩ = Po.turn k (⟨a0, a1⟩ : Iv)))
  subst_vars; rfl
theorem kSlide (k : Int) (a0 a1 : Int) (hk : 0 ≤ k ∧ k ≤ 2) (w : World) : Calls Tryz.prog 167 [.int .i64 k, .agg #[.int .i64 a0, .int .i64 a1]].toArray w (Rets (po (Po.shift (V3.put k (⟨a0, a1⟩ : Iv)))) (w)) := by
  refine calls_of_doC (n := 11) Tryz.func167 rfl rfl rfl ?_
  refine doC_seq ?_
  refine doC_region ?_
  refine doL_box 3 rfl rfl rfl rfl ?_; intro b3
  refine doL_alloc 4 ze134 rfl rfl rfl ?_; intro b4
  refine doL_nil ?_
  refine post_then ?_
  refine doC_seq ?_
  refine doC_region ?_
  refine doL_alloc 5 ze127 rfl rfl rfl ?_; intro b5
  refine doL_nil ?_
  refine post_then ?_
  refine doC_seq ?_
  rcases (show k = 0 ∨ k = 1 ∨ k = 2 by omega) with rfl | rfl | rfl
  ·
    refine doC_region ?_
    refine doL_v (opV_move rfl) rfl rfl rfl ?_
    refine doL_v (opV_loadA 3 ty88 rfl rfl rfl) rfl rfl rfl ?_
    refine doL_v (opV_indexAddr ar127 rfl rfl (by first | decide | omega) (by first | decide | omega)) rfl rfl rfl ?_
    refine doL_store 5 ty88 rfl rfl rfl rfl rfl rfl rfl rfl ?_
    refine doL_nil ?_
    refine post_then ?_
    refine doC_seq ?_
    refine doC_region ?_
    refine doL_v (opV_loadA 5 ty127 rfl rfl rfl) rfl rfl rfl ?_
    refine doL_vg (F := po) (opV_call en157 rfl (fun w _ => pShift _ _ _ _ _ _  w)) rfl rfl rfl ?_; intro r10 hr10
    refine doL_store 4 ty134 rfl rfl rfl rfl rfl rfl rfl rfl ?_
    refine doL_nil ?_
    refine post_then ?_
    refine doC_ret ?_
    refine post_rets (rs := [.cell 4 134]) rfl (resC (resIs_cell 4 rfl rfl ty134 rfl) (resN)) (congrArg (po) (?_ : ⟨⟨⟨⟨_, _⟩, ⟨_, _⟩, ⟨_, _⟩⟩, ⟨⟨_, _⟩, ⟨_, _⟩, ⟨_, _⟩⟩, ⟨⟨_, _⟩, ⟨_, _⟩, ⟨_, _⟩⟩⟩, ⟨⟨_, _⟩, ⟨_, _⟩, ⟨_, _⟩⟩⟩ = Po.shift (V3.put 0 (⟨a0, a1⟩ : Iv))))
    subst_vars; rfl
  ·
    refine doC_region ?_
    refine doL_v (opV_move rfl) rfl rfl rfl ?_
    refine doL_v (opV_loadA 3 ty88 rfl rfl rfl) rfl rfl rfl ?_
    refine doL_v (opV_indexAddr ar127 rfl rfl (by first | decide | omega) (by first | decide | omega)) rfl rfl rfl ?_
    refine doL_store 5 ty88 rfl rfl rfl rfl rfl rfl rfl rfl ?_
    refine doL_nil ?_
    refine post_then ?_
    refine doC_seq ?_
    refine doC_region ?_
    refine doL_v (opV_loadA 5 ty127 rfl rfl rfl) rfl rfl rfl ?_
    refine doL_vg (F := po) (opV_call en157 rfl (fun w _ => pShift _ _ _ _ _ _  w)) rfl rfl rfl ?_; intro r10 hr10
    refine doL_store 4 ty134 rfl rfl rfl rfl rfl rfl rfl rfl ?_
    refine doL_nil ?_
    refine post_then ?_
    refine doC_ret ?_
    refine post_rets (rs := [.cell 4 134]) rfl (resC (resIs_cell 4 rfl rfl ty134 rfl) (resN)) (congrArg (po) (?_ : ⟨⟨⟨⟨_, _⟩, ⟨_, _⟩, ⟨_, _⟩⟩, ⟨⟨_, _⟩, ⟨_, _⟩, ⟨_, _⟩⟩, ⟨⟨_, _⟩, ⟨_, _⟩, ⟨_, _⟩⟩⟩, ⟨⟨_, _⟩, ⟨_, _⟩, ⟨_, _⟩⟩⟩ = Po.shift (V3.put 1 (⟨a0, a1⟩ : Iv))))
    subst_vars; rfl
  ·
    refine doC_region ?_
    refine doL_v (opV_move rfl) rfl rfl rfl ?_
    refine doL_v (opV_loadA 3 ty88 rfl rfl rfl) rfl rfl rfl ?_
    refine doL_v (opV_indexAddr ar127 rfl rfl (by first | decide | omega) (by first | decide | omega)) rfl rfl rfl ?_
    refine doL_store 5 ty88 rfl rfl rfl rfl rfl rfl rfl rfl ?_
    refine doL_nil ?_
    refine post_then ?_
    refine doC_seq ?_
    refine doC_region ?_
    refine doL_v (opV_loadA 5 ty127 rfl rfl rfl) rfl rfl rfl ?_
    refine doL_vg (F := po) (opV_call en157 rfl (fun w _ => pShift _ _ _ _ _ _  w)) rfl rfl rfl ?_; intro r10 hr10
    refine doL_store 4 ty134 rfl rfl rfl rfl rfl rfl rfl rfl ?_
    refine doL_nil ?_
    refine post_then ?_
    refine doC_ret ?_
    refine post_rets (rs := [.cell 4 134]) rfl (resC (resIs_cell 4 rfl rfl ty134 rfl) (resN)) (congrArg (po) (?_ : ⟨⟨⟨⟨_, _⟩, ⟨_, _⟩, ⟨_, _⟩⟩, ⟨⟨_, _⟩, ⟨_, _⟩, ⟨_, _⟩⟩, ⟨⟨_, _⟩, ⟨_, _⟩, ⟨_, _⟩⟩⟩, ⟨⟨_, _⟩, ⟨_, _⟩, ⟨_, _⟩⟩⟩ = Po.shift (V3.put 2 (⟨a0, a1⟩ : Iv))))
    subst_vars; rfl
theorem kRest (k : Int) (a0 a1 : Int) (w : World) : Calls Tryz.prog 168 [.int .i64 k, .agg #[.int .i64 a0, .int .i64 a1]].toArray w (Rets (po (Po.rest)) (w)) := by
  refine calls_of_doC (n := 6) Tryz.func168 rfl rfl rfl ?_
  refine doC_seq ?_
  refine doC_region ?_
  refine doL_box 3 rfl rfl rfl rfl ?_; intro b3
  refine doL_alloc 4 ze134 rfl rfl rfl ?_; intro b4
  refine doL_nil ?_
  refine post_then ?_
  refine doC_seq ?_
  refine doC_region ?_
  refine doL_vg (F := po) (opV_call en177 rfl (fun w _ => pIdentity   w)) rfl rfl rfl ?_; intro r5 hr5
  refine doL_store 4 ty134 rfl rfl rfl rfl rfl rfl rfl rfl ?_
  refine doL_nil ?_
  refine post_then ?_
  refine doC_ret ?_
  refine post_rets (rs := [.cell 4 134]) rfl (resC (resIs_cell 4 rfl rfl ty134 rfl) (resN)) (congrArg (po) (?_ : ⟨⟨⟨⟨_, _⟩, ⟨_, _⟩, ⟨_, _⟩⟩, ⟨⟨_, _⟩, ⟨_, _⟩, ⟨_, _⟩⟩, ⟨⟨_, _⟩, ⟨_, _⟩, ⟨_, _⟩⟩⟩, ⟨⟨_, _⟩, ⟨_, _⟩, ⟨_, _⟩⟩⟩ = Po.rest))
  subst_vars; rfl
theorem kMotion (k : Int) (w : World) : Calls Tryz.prog 158 [.int .i64 k].toArray w (Rets (motV 166 167 168 k) w) := by
  refine calls_of_doC (n := 22) Tryz.func158 rfl rfl rfl ?_
  refine doC_seq ?_
  refine doC_region ?_
  refine doL_alloc 2 ze197 rfl rfl rfl ?_; intro b2
  refine doL_nil ?_
  refine post_then ?_
  refine doC_seq ?_
  refine doC_seq ?_
  refine doC_region ?_
  refine doL_v (opV_move rfl) rfl rfl rfl ?_
  refine doL_nil ?_
  refine post_then ?_
  refine doC_block ?_
  refine doC_seq ?_
  refine doC_seq ?_
  refine doC_region ?_
  refine doL_v (opV_eql rfl rfl) rfl rfl rfl ?_
  refine doL_v (opV_assign rfl) rfl rfl rfl ?_
  refine doL_nil ?_
  refine post_then ?_
  refine doC_cond rfl (fun hc4 => ?_) (fun hc4 => ?_)
  ·
    have e := of_decide_eq_true hc4
    refine doC_skip ?_
    refine post_then ?_
    refine doC_cond_t rfl (hc4) ?_
    refine doC_seq ?_
    refine doC_region ?_
    refine doL_v (opV_move rfl) rfl rfl rfl ?_
    refine doL_v (opV_sub rfl rfl (by first | exact i64_in ⟨by omega, by omega⟩ | rfl)) rfl rfl rfl ?_
    refine doL_v (opV_makeFunc rfl rfl) rfl rfl rfl ?_
    refine doL_v (opV_build la197 rfl rfl) rfl rfl rfl ?_
    refine doL_store 2 ty197 rfl rfl rfl rfl rfl rfl rfl rfl ?_
    refine doL_nil ?_
    refine post_then ?_
    refine doC_ret ?_
    refine post_block_ret ?_
    refine post_then_ret ?_
    refine post_ret (rs := [.cell 2 197]) rfl (resC (resIs_cell 2 rfl rfl ty197 rfl) (resN)) rfl ?_
    intro w2 kn
    exact ⟨congrArg Ending.returned (by first | exact (mot_t (by omega)).symm | exact (mot_s (by omega)).symm | exact (mot_r (by omega) (by omega)).symm), kn.grow⟩
  ·
    have e := of_decide_eq_false hc4
    refine doC_seq ?_
    refine doC_region ?_
    refine doL_v (opV_eql rfl rfl) rfl rfl rfl ?_
    refine doL_v (opV_assign rfl) rfl rfl rfl ?_
    refine doL_nil ?_
    refine post_then ?_
    refine doC_cond rfl (fun hc4_2 => ?_) (fun hc4_2 => ?_)
    ·
      have e := of_decide_eq_true hc4_2
      refine doC_skip ?_
      refine post_then ?_
      refine doC_cond_t rfl (hc4_2) ?_
      refine doC_seq ?_
      refine doC_region ?_
      refine doL_v (opV_move rfl) rfl rfl rfl ?_
      refine doL_v (opV_sub rfl rfl (by first | exact i64_in ⟨by omega, by omega⟩ | rfl)) rfl rfl rfl ?_
      refine doL_v (opV_makeFunc rfl rfl) rfl rfl rfl ?_
      refine doL_v (opV_build la197 rfl rfl) rfl rfl rfl ?_
      refine doL_store 2 ty197 rfl rfl rfl rfl rfl rfl rfl rfl ?_
      refine doL_nil ?_
      refine post_then ?_
      refine doC_ret ?_
      refine post_block_ret ?_
      refine post_then_ret ?_
      refine post_ret (rs := [.cell 2 197]) rfl (resC (resIs_cell 2 rfl rfl ty197 rfl) (resN)) rfl ?_
      intro w2 kn
      exact ⟨congrArg Ending.returned (by first | exact (mot_t (by omega)).symm | exact (mot_s (by omega)).symm | exact (mot_r (by omega) (by omega)).symm), kn.grow⟩
    ·
      have e := of_decide_eq_false hc4_2
      refine doC_region ?_
      refine doL_v (opV_eql rfl rfl) rfl rfl rfl ?_
      refine doL_v (opV_assign rfl) rfl rfl rfl ?_
      refine doL_nil ?_
      refine post_then ?_
      refine doC_cond rfl (fun hc4_3 => ?_) (fun hc4_3 => ?_)
      ·
        have e := of_decide_eq_true hc4_3
        refine doC_seq ?_
        refine doC_region ?_
        refine doL_v (opV_move rfl) rfl rfl rfl ?_
        refine doL_v (opV_sub rfl rfl (by first | exact i64_in ⟨by omega, by omega⟩ | rfl)) rfl rfl rfl ?_
        refine doL_v (opV_makeFunc rfl rfl) rfl rfl rfl ?_
        refine doL_v (opV_build la197 rfl rfl) rfl rfl rfl ?_
        refine doL_store 2 ty197 rfl rfl rfl rfl rfl rfl rfl rfl ?_
        refine doL_nil ?_
        refine post_then ?_
        refine doC_ret ?_
        refine post_block_ret ?_
        refine post_then_ret ?_
        refine post_ret (rs := [.cell 2 197]) rfl (resC (resIs_cell 2 rfl rfl ty197 rfl) (resN)) rfl ?_
        intro w2 kn
        exact ⟨congrArg Ending.returned (by first | exact (mot_t (by omega)).symm | exact (mot_s (by omega)).symm | exact (mot_r (by omega) (by omega)).symm), kn.grow⟩
      ·
        have e := of_decide_eq_false hc4_3
        refine doC_seq ?_
        refine doC_seq ?_
        refine doC_region ?_
        refine doL_v (opV_eql rfl rfl) rfl rfl rfl ?_
        refine doL_v (opV_assign rfl) rfl rfl rfl ?_
        refine doL_nil ?_
        refine post_then ?_
        refine doC_cond rfl (fun hc12 => ?_) (fun hc12 => ?_)
        ·
          have e := of_decide_eq_true hc12
          refine doC_skip ?_
          refine post_then ?_
          refine doC_cond_t rfl (hc12) ?_
          refine doC_seq ?_
          refine doC_region ?_
          refine doL_v (opV_move rfl) rfl rfl rfl ?_
          refine doL_v (opV_sub rfl rfl (by first | exact i64_in ⟨by omega, by omega⟩ | rfl)) rfl rfl rfl ?_
          refine doL_v (opV_makeFunc rfl rfl) rfl rfl rfl ?_
          refine doL_v (opV_build la197 rfl rfl) rfl rfl rfl ?_
          refine doL_store 2 ty197 rfl rfl rfl rfl rfl rfl rfl rfl ?_
          refine doL_nil ?_
          refine post_then ?_
          refine doC_ret ?_
          refine post_block_ret ?_
          refine post_then_ret ?_
          refine post_ret (rs := [.cell 2 197]) rfl (resC (resIs_cell 2 rfl rfl ty197 rfl) (resN)) rfl ?_
          intro w2 kn
          exact ⟨congrArg Ending.returned (by first | exact (mot_t (by omega)).symm | exact (mot_s (by omega)).symm | exact (mot_r (by omega) (by omega)).symm), kn.grow⟩
        ·
          have e := of_decide_eq_false hc12
          refine doC_seq ?_
          refine doC_region ?_
          refine doL_v (opV_eql rfl rfl) rfl rfl rfl ?_
          refine doL_v (opV_assign rfl) rfl rfl rfl ?_
          refine doL_nil ?_
          refine post_then ?_
          refine doC_cond rfl (fun hc12_2 => ?_) (fun hc12_2 => ?_)
          ·
            have e := of_decide_eq_true hc12_2
            refine doC_skip ?_
            refine post_then ?_
            refine doC_cond_t rfl (hc12_2) ?_
            refine doC_seq ?_
            refine doC_region ?_
            refine doL_v (opV_move rfl) rfl rfl rfl ?_
            refine doL_v (opV_sub rfl rfl (by first | exact i64_in ⟨by omega, by omega⟩ | rfl)) rfl rfl rfl ?_
            refine doL_v (opV_makeFunc rfl rfl) rfl rfl rfl ?_
            refine doL_v (opV_build la197 rfl rfl) rfl rfl rfl ?_
            refine doL_store 2 ty197 rfl rfl rfl rfl rfl rfl rfl rfl ?_
            refine doL_nil ?_
            refine post_then ?_
            refine doC_ret ?_
            refine post_block_ret ?_
            refine post_then_ret ?_
            refine post_ret (rs := [.cell 2 197]) rfl (resC (resIs_cell 2 rfl rfl ty197 rfl) (resN)) rfl ?_
            intro w2 kn
            exact ⟨congrArg Ending.returned (by first | exact (mot_t (by omega)).symm | exact (mot_s (by omega)).symm | exact (mot_r (by omega) (by omega)).symm), kn.grow⟩
          ·
            have e := of_decide_eq_false hc12_2
            refine doC_region ?_
            refine doL_v (opV_eql rfl rfl) rfl rfl rfl ?_
            refine doL_v (opV_assign rfl) rfl rfl rfl ?_
            refine doL_nil ?_
            refine post_then ?_
            refine doC_cond rfl (fun hc12_3 => ?_) (fun hc12_3 => ?_)
            ·
              have e := of_decide_eq_true hc12_3
              refine doC_seq ?_
              refine doC_region ?_
              refine doL_v (opV_move rfl) rfl rfl rfl ?_
              refine doL_v (opV_sub rfl rfl (by first | exact i64_in ⟨by omega, by omega⟩ | rfl)) rfl rfl rfl ?_
              refine doL_v (opV_makeFunc rfl rfl) rfl rfl rfl ?_
              refine doL_v (opV_build la197 rfl rfl) rfl rfl rfl ?_
              refine doL_store 2 ty197 rfl rfl rfl rfl rfl rfl rfl rfl ?_
              refine doL_nil ?_
              refine post_then ?_
              refine doC_ret ?_
              refine post_block_ret ?_
              refine post_then_ret ?_
              refine post_ret (rs := [.cell 2 197]) rfl (resC (resIs_cell 2 rfl rfl ty197 rfl) (resN)) rfl ?_
              intro w2 kn
              exact ⟨congrArg Ending.returned (by first | exact (mot_t (by omega)).symm | exact (mot_s (by omega)).symm | exact (mot_r (by omega) (by omega)).symm), kn.grow⟩
            ·
              have e := of_decide_eq_false hc12_3
              refine doC_skip ?_
              refine post_block_normal ?_
              refine post_then ?_
              refine doC_seq ?_
              refine doC_region ?_
              refine doL_v (opV_makeFunc rfl rfl) rfl rfl rfl ?_
              refine doL_v (opV_build la197 rfl rfl) rfl rfl rfl ?_
              refine doL_store 2 ty197 rfl rfl rfl rfl rfl rfl rfl rfl ?_
              refine doL_nil ?_
              refine post_then ?_
              refine doC_ret ?_
              refine post_ret (rs := [.cell 2 197]) rfl (resC (resIs_cell 2 rfl rfl ty197 rfl) (resN)) rfl ?_
              intro w2 kn
              exact ⟨congrArg Ending.returned (by first | exact (mot_t (by omega)).symm | exact (mot_s (by omega)).symm | exact (mot_r (by omega) (by omega)).symm), kn.grow⟩
theorem en_t : Enters Tryz.prog 166 := enters_of Tryz.func166 (by kernel_rfl) (by kernel_rfl)
theorem en_s : Enters Tryz.prog 167 := enters_of Tryz.func167 (by kernel_rfl) (by kernel_rfl)
theorem en_r : Enters Tryz.prog 168 := enters_of Tryz.func168 (by kernel_rfl) (by kernel_rfl)
theorem en_mot (k : Int) : Enters Tryz.prog (if k = 1 ∨ k = 2 ∨ k = 3 then 166 else if k = 4 ∨ k = 5 ∨ k = 6 then 167 else 168) := by
  by_cases h : k = 1 ∨ k = 2 ∨ k = 3
  · rw [if_pos h]; exact en_t
  · by_cases h2 : k = 4 ∨ k = 5 ∨ k = 6
    · rw [if_neg h, if_pos h2]; exact en_s
    · rw [if_neg h, if_neg h2]; exact en_r
theorem kMove (k a0 a1 : Int) (w : World) : Calls Tryz.prog (if k = 1 ∨ k = 2 ∨ k = 3 then 166 else if k = 4 ∨ k = 5 ∨ k = 6 then 167 else 168) [.int .i64 (if k = 1 ∨ k = 2 ∨ k = 3 then k - 1 else if k = 4 ∨ k = 5 ∨ k = 6 then k - 4 else 0), .agg #[.int .i64 a0, .int .i64 a1]].toArray w (Rets (po (jMot k ⟨a0, a1⟩)) w) := by
  by_cases h : k = 1 ∨ k = 2 ∨ k = 3
  · rw [if_pos h, if_pos h, jMot_t h]; exact kTurn _ _ _ w
  · by_cases h2 : k = 4 ∨ k = 5 ∨ k = 6
    · rw [if_neg h, if_pos h2, if_neg h, if_pos h2, jMot_s h2]; exact kSlide _ _ _ (by omega) w
    · rw [if_neg h, if_neg h2, if_neg h, if_neg h2, jMot_r h h2]; exact kRest _ _ _ w
theorem kJoint (a0 a1 : Int) (nm : ByteArray) (kind par ox oy oz jlo jhi we spd acc tq : Int) (w : World) : Calls Tryz.prog 140 [.agg #[.string nm, .int .i64 kind, .int .i64 par, .int .i64 ox, .int .i64 oy, .int .i64 oz, .int .i64 jlo, .int .i64 jhi, .int .i64 we, .int .i64 spd, .int .i64 acc, .int .i64 tq], .agg #[.int .i64 a0, .int .i64 a1]].toArray w (Rets (po (jPose kind ⟨ox, oy, oz⟩ (⟨a0, a1⟩ : Iv))) (w)) := by
  refine calls_of_doC (n := 16) Tryz.func140 rfl rfl rfl ?_
  refine doC_seq ?_
  refine doC_region ?_
  refine doL_box 2 rfl rfl rfl rfl ?_; intro b2
  refine doL_box 3 rfl rfl rfl rfl ?_; intro b3
  refine doL_alloc 4 ze134 rfl rfl rfl ?_; intro b4
  refine doL_nil ?_
  refine post_then ?_
  refine doC_seq ?_
  refine doC_drawn 11 mo (by kernel_rfl) ?_
  simp only [List.take_succ_cons, List.take_zero, List.drop_succ_cons, List.drop_zero]
  refine doG_v (opV_fieldAddr fa87_3 rfl) rfl rfl rfl ?_
  refine doG_v (opV_loadA 2 ty29 rfl rfl rfl) rfl rfl rfl ?_
  refine doG_vg (F := v3) (opV_call en75 rfl (fun w _ => mPoint _ _ _  w)) rfl rfl rfl ?_; intro r7 hr7
  refine doG_vg (F := po) (opV_call en157 rfl (fun w _ => pShift _ _ _ _ _ _  w)) rfl rfl rfl ?_; intro r8 hr8
  refine doG_v (opV_fieldAddr fa87_1 rfl) rfl rfl rfl ?_
  refine doG_v (opV_load1 2 ty3 rfl rfl rfl) rfl rfl rfl ?_
  refine doG_vg (F := motV 166 167 168) (opV_call en158 rfl (fun w _ => kMotion _  w)) rfl rfl rfl ?_; intro r11 hr11
  refine doG_v (opV_field1 fl197_0 rfl rfl) rfl rfl rfl ?_
  refine doG_v (opV_loadA 3 ty88 rfl rfl rfl) rfl rfl rfl ?_
  refine doG_vg (F := po) (opV_callV (en_mot _) rfl rfl rfl (fun w _ => kMove _ _ _ w)) rfl rfl rfl ?_; intro r14 hr14
  refine doG_vg (F := po) (opV_call en141 rfl (fun w _ => pCompose _ _ _ _ _ _ _ _ _ _ _ _ _ _ _ _ _ _ _ _ _ _ _ _ _ _ _ _ _ _ _ _ _ _ _ _ _ _ _ _ _ _ _ _ _ _ _ _  w)) rfl rfl rfl ?_; intro r15 hr15
  refine doG_nil ?_
  refine tail_nil ?_
  refine doL_store 4 ty134 rfl rfl rfl rfl rfl rfl rfl rfl ?_
  refine doL_nil ?_
  refine post_then ?_
  refine doC_ret ?_
  refine post_rets (rs := [.cell 4 134]) rfl (resC (resIs_cell 4 rfl rfl ty134 rfl) (resN)) (congrArg (po) (?_ : ⟨⟨⟨⟨_, _⟩, ⟨_, _⟩, ⟨_, _⟩⟩, ⟨⟨_, _⟩, ⟨_, _⟩, ⟨_, _⟩⟩, ⟨⟨_, _⟩, ⟨_, _⟩, ⟨_, _⟩⟩⟩, ⟨⟨_, _⟩, ⟨_, _⟩, ⟨_, _⟩⟩⟩ = jPose kind ⟨ox, oy, oz⟩ (⟨a0, a1⟩ : Iv)))
  have e8 : r8 = Po.shift r7 := hr8
  have e15 : r15 = Po.mul r8 r14 := hr15
  show r15 = _
  rw [e15, e8, hr7, hr14, hr11]
  rfl
end Go.Proofs.YtfoedaolmmadgaaGreat
namespace Go.Rx
open Go.RowKit Go.Sx
def kB : IntKind → IntKind → Bool
  | .i64, .i64 => true
  | .i32, .i32 => true
  | .u64, .u64 => true
  | .u8, .u8 => true
  | _, _ => false
theorem kB_eq {k k' : IntKind} (h : kB k k' = true) : k = k' := by cases k <;> cases k' <;> first | rfl | cases h
def eqP : Nat → PV → PV → Bool
  | 0, _, _ => false
  | _ + 1, .n k x, .n k' y => kB k k' && decide (x = y)
  | _ + 1, .b x, .b y => x == y
  | _ + 1, .s x, .s y => decide (x.data.toList = y.data.toList)
  | n + 1, .a xs, .a ys => eqL n xs ys
  | n + 1, .t xs, .t ys => eqL n xs ys
  | n + 1, .l xs, .l ys => eqLL n xs ys
  | n + 1, .z xs j o, .z ys j' o' => eqLL n xs ys && Nat.beq j j' && Nat.beq o o'
  | n + 1, .c xs o, .c ys o' => eqL n xs ys && Nat.beq o o'
  | n + 1, .f f fs cs, .f f' fs' cs' => Nat.beq f f' && eqL n fs fs' && eqL n cs cs'
  | _ + 1, .ni, .ni => true
  | _ + 1, .np, .np => true
  | _ + 1, .nf, .nf => true
  | _ + 1, _, _ => false
where
  eqL : Nat → List PV → List PV → Bool
  | 0, _, _ => false
  | _ + 1, [], [] => true
  | n + 1, x :: xs, y :: ys => eqP n x y && eqL n xs ys
  | _ + 1, _, _ => false
  eqLL : Nat → List (List PV) → List (List PV) → Bool
  | 0, _, _ => false
  | _ + 1, [], [] => true
  | n + 1, x :: xs, y :: ys => eqP.eqL n x y && eqLL n xs ys
  | _ + 1, _, _ => false
theorem bytes_eq {x y : ByteArray} (h : x.data.toList = y.data.toList) : x = y := by
  cases x; cases y
  congr 1
  exact Array.toList_inj.1 h
theorem eq_all : ∀ n, (∀ p q, eqP n p q = true → p = q) ∧ (∀ p q, eqP.eqL n p q = true → p = q) ∧ (∀ p q, eqP.eqLL n p q = true → p = q)
  | 0 => ⟨fun p q h => by simp [eqP] at h, fun p q h => by simp [eqP.eqL] at h, fun p q h => by simp [eqP.eqLL] at h⟩
  | n + 1 => by
    obtain ⟨h1, h2, h3⟩ := eq_all n
    refine ⟨fun p q h => ?_, fun p q h => ?_, fun p q h => ?_⟩
    · cases p <;> cases q <;> simp only [eqP, Bool.and_eq_true, decide_eq_true_eq, beq_iff_eq] at h <;> first | (cases h; done) | skip
      · rw [kB_eq h.1, h.2]
      · rw [h]
      · rw [bytes_eq h]
      · rw [h2 _ _ h]
      · rw [h2 _ _ h]
      · rw [h3 _ _ h]
      · rw [h3 _ _ h.1.1, Nat.eq_of_beq_eq_true h.1.2, Nat.eq_of_beq_eq_true h.2]
      · rw [h2 _ _ h.1, Nat.eq_of_beq_eq_true h.2]
      · rw [Nat.eq_of_beq_eq_true h.1.1, h2 _ _ h.1.2, h2 _ _ h.2]
      · rfl
      · rfl
      · rfl
    · cases p <;> cases q <;> simp only [eqP.eqL, Bool.and_eq_true] at h <;> first | (cases h; done) | skip
      · rfl
      · rw [h1 _ _ h.1, h2 _ _ h.2]
    · cases p <;> cases q <;> simp only [eqP.eqLL, Bool.and_eq_true] at h <;> first | (cases h; done) | skip
      · rfl
      · rw [h2 _ _ h.1, h3 _ _ h.2]
abbrev Known := List (Nat × List (List PV × Ret))
def findK : List (List PV × Ret) → List PV → Option Ret
  | [], _ => none
  | (ps, r) :: l, qs => bif eqP.eqL 200 ps qs then some r else findK l qs
def Known.orc (t : Known) : Orc := ⟨fun g => (asc t g).bind fun l => some (findK l), fun _ => none⟩
def Known.Ok (P : Program) (t : Known) : Prop := ∀ x ∈ t, ∀ y ∈ x.2, SndA1 P x.1 y.1 y.2
theorem findK_mem {l : List (List PV × Ret)} {qs : List PV} {r : Ret} (h : findK l qs = some r) : (qs, r) ∈ l := by
  induction l with
  | nil => cases h
  | cons y l ih =>
    obtain ⟨ps, r'⟩ := y
    simp only [findK] at h
    cases hc : eqP.eqL 200 ps qs with
    | true => rw [hc] at h; cases h; rw [(eq_all 200).2.1 _ _ hc]; exact List.mem_cons_self
    | false => rw [hc] at h; exact List.mem_cons_of_mem _ (ih h)
theorem Known.ok {P : Program} {t : Known} (h : t.Ok P) : OrcOk P t.orc := by
  refine ⟨fun g o ho ps r hr => ?_, fun g o ho => by simp [Known.orc] at ho⟩
  simp only [Known.orc, Option.bind_eq_some_iff, Option.some.injEq] at ho
  obtain ⟨l, hl, rfl⟩ := ho
  exact h _ (asc_mem hl) _ (findK_mem hr)
theorem Known.nil (P : Program) : Known.Ok P [] := fun x hx => by simp at hx
theorem Known.add {P : Program} {T : Tab} {t : Known} {f : Nat} {l : List (List PV × Ret)} {N : Nat} (hT : TabOk P T) (hm : P.follows .mixedOrders = true) (ht : t.Ok P) (h : l.map (fun y => run T t.orc N f y.1) = l.map (fun y => some y.2)) : Known.Ok P ((f, l) :: t) := fun x hx => by
  rcases List.mem_cons.1 hx with rfl | hx
  · exact fun y hy => run_sound hT hm (Known.ok ht) (map_at h hy)
  · exact ht x hx
end Go.Rx
namespace Go.Rx
open Go.RowKit Go.Sx
section
abbrev α := Ret × Mem
abbrev CallK := Nat → List PV → (Ret → Option α) → Option α
def splitK (e : Eff) (K : Eff → Option α) : Option α := match e with
  | ⟨[], [], .v (.b c), []⟩ => bif c then K (.val (.v (.b true))) else K (.val (.v (.b false)))
  | e => K e
theorem splitK_eq (e : Eff) (K : Eff → Option α) : splitK e K = K e := by
  unfold splitK
  split
  · rename_i c; cases c <;> rfl
  · rfl
def callEffK (C : Cx) (cK : CallK) (dst f : Nat) (args : List RV) (K : Eff → Option α) : Option α :=
  (mapO RV.fz args).bind fun ps => cK f ps fun r =>
    (bif args.all RV.still then retEff C.T C.me dst (catR RV.regs args) r
    else match r with
      | .v x => bif x.flat then some (.val (.v x)) else none
      | _ => none).bind fun e => splitK e K
def evalK (C : Cx) (cK : CallK) (dst : Nat) (op : Op) (vs : List RV) (K : Eff → Option α) : Option α :=
  match op, vs with
  | .binOp .quo _ _ _ _, [.v (.n k x), .v (.n k' y)] => bif decide (k = k') then (bif decide (y = 0) then none else K (.val (.v (.n k (k.wrap (x.tdiv y)))))) else none
  | .binOp .rem _ _ _ _, [.v (.n k x), .v (.n k' y)] => bif decide (k = k') then (bif decide (y = 0) then none else K (.val (.v (.n k (x.tmod y))))) else none
  | .call ⟨.value fx, axs, ats⟩, .v (.f f first cap) :: vs => bif C.T.rw f then (evalO C.T C.cA C.cB C.me dst (.call ⟨.value fx, axs, ats⟩) (.v (.f f first cap) :: vs)).bind fun e => splitK e K
      else callEffK C cK dst f (first.map .v ++ vs ++ cap.map .v) K
  | op, vs => (evalO C.T C.cA C.cB C.me dst op vs).bind fun e => splitK e K
def goK (C : Cx) (cK : CallK) (o : Oper) (σ : St) (K : Eff × List RV → Option α) : Option α :=
  bif dstB C.n o.dst then
    (mapO (opv (mode o.op) σ) o.op.operands.toList).bind fun vs => evalK C cK (o.dst.getD 0) o.op vs fun e =>
      bif e.nw.all (fun id => (lookM σ.M id).isNone) then K (e, vs) else none
  else none
def skipK (C : Cx) (o : Oper) (K : Eff × List RV → Option α) : Option α := bif dstB C.n o.dst then K (.val (.v (.t [])), []) else none
def stepK (C : Cx) (cK : CallK) (ops : Array Oper) (o : Oper) (σ : St) (K : Eff × List RV → Option α) : Option α :=
  match o.guard with
  | none => goK C cK o σ K
  | some (j, b) => match (ops[j]?).bind (·.dst) with
    | some d => match lookS σ.S d with
      | some (.v (.b c)) => (match b with
        | true => bif c then goK C cK o σ K else skipK C o K
        | false => bif c then skipK C o K else goK C cK o σ K)
      | some (.v (.t [])) => skipK C o K
      | _ => none
    | none => none
end
def runOpsK (C : Cx) (cK : CallK) (ops : Array Oper) : List Oper → (St → Option (Ret × Mem)) → St → Option (Ret × Mem)
  | [], K, σ => K σ
  | o :: l, K, σ => stepK C cK ops o σ fun r => runOpsK C cK ops l K (σ.apply r.1 o.dst)
def runDrawK (C : Cx) (cK : CallK) (ops : Array Oper) : Nat → List Oper → List Done → (St → Option (Ret × Mem)) → St → Option (Ret × Mem)
  | _, [], acc, K, σ => bif pairsB ops acc.reverse && Sx.backB ops then K σ else none
  | i, o :: l, acc, K, σ => stepK C cK ops o σ fun r => runDrawK C cK ops (i + 1) l ((i, r) :: acc) K (σ.apply r.1 o.dst)
def runCK (N : Nat) (C : Cx) (cK : CallK) : Code → (Ex → St → Option (Ret × Mem)) → St → Option (Ret × Mem)
  | .skip, K, σ => K .normal σ
  | .label _, K, σ => K .normal σ
  | .scope x, K, σ => runCK N C cK x K σ
  | .ret, K, σ => K .ret σ
  | .exit id, K, σ => K (.exit id) σ
  | .region _ ops d, K, σ => bif d then runDrawK C cK ops 0 ops.toList [] (K .normal) σ else runOpsK C cK ops ops.toList (K .normal) σ
  | .seq x y, K, σ => runCK N C cK x (fun e σ => match e with
      | .normal => runCK N C cK y K σ
      | e => K e σ) σ
  | .cond c x y, K, σ => (opv 1 σ c).bind fun v => match v with
      | .v (.b t) => bif t then runCK N C cK x K σ else runCK N C cK y K σ
      | _ => none
  | .block id x, K, σ => runCK N C cK x (fun e σ => match e with
      | .exit id' => bif Nat.beq id' id then K .normal σ else K (.exit id') σ
      | e => K e σ) σ
  | .loop x, K, σ => loopN (fun again σ => runCK N C cK x (fun e σ => match e with
      | .normal => again σ
      | e => K e σ) (prune (C.T.hint C.me (firstR x)) σ)) N σ
  | _, _, _ => none
abbrev OrK := Nat → Option (List PV → Option (Bool × Ret))
def OrK.orc (o : OrK) : Orc := ⟨fun g => (o g).bind fun f => some fun ps => (f ps).bind fun x => bif x.1 then some x.2 else none, fun _ => none⟩
def callAK (ok : OrK) (rK : CallK) : CallK := fun g ps K => match ok g with
  | some o => (o ps).bind fun x => bif x.1 then K x.2 else none
  | none => rK g ps K
def runFK (T : Tab) (ok : OrK) : Nat → CallK
  | 0, _, _, _ => none
  | N + 1, f, ps, K => match T.fn f with
    | none => none
    | some fi => bif Nat.ble (ps.map HV.v).length fi.ntmps then runCK N ⟨T, callA ok.orc (runF T ok.orc N), callB ok.orc (runF T ok.orc N), f, fi.ntmps⟩ (callAK ok (runFK T ok N)) fi.body (fun e σ => (endK T [] fi.results e σ).bind fun r => K r.1) ⟨initS 0 (ps.map .v), []⟩ else none
def runK (T : Tab) (ok : OrK) (N f : Nat) (ps : List PV) : Option (Ret × Mem) := runFK T ok N f ps fun r => some (r, [])
section
variable {C : Cx} {cK : CallK} {ops : Array Oper} {r : α}
def SndK (C : Cx) (cK : CallK) : Prop := ∀ f ps K r, cK f ps K = some r → ∃ x, C.cA f ps = some x ∧ K x = some r
theorem evalK_some {dst : Nat} {op : Op} {vs : List RV} {K : Eff → Option α} (hc : SndK C cK) (h : evalK C cK dst op vs K = some r) : ∃ e, evalO C.T C.cA C.cB C.me dst op vs = some e ∧ K e = some r := by
  unfold evalK at h
  split at h
  · rename_i k x k' y
    obtain ⟨h1, h⟩ := bif_some h
    cases hy : decide (y = 0) with
    | true => rw [hy] at h; cases h
    | false =>
      rw [hy] at h
      refine ⟨_, ?_, h⟩
      simp [evalO, binP, binI, h1, hy]
  · rename_i k x k' y
    obtain ⟨h1, h⟩ := bif_some h
    cases hy : decide (y = 0) with
    | true => rw [hy] at h; cases h
    | false =>
      rw [hy] at h
      refine ⟨_, ?_, h⟩
      simp [evalO, binP, binI, h1, hy]
  · rename_i fx axs ats f first cap vs
    cases hrw : C.T.rw f with
    | true =>
      rw [hrw] at h
      simp only [cond_true, Option.bind_eq_some_iff] at h
      obtain ⟨e, he, h⟩ := h
      rw [splitK_eq] at h
      exact ⟨e, he, h⟩
    | false =>
      rw [hrw] at h
      simp only [cond_false, callEffK, Option.bind_eq_some_iff] at h
      obtain ⟨ps, hps, h⟩ := h
      obtain ⟨x, hx, h⟩ := hc _ _ _ _ h
      rw [Option.bind_eq_some_iff] at h
      obtain ⟨e, he, h⟩ := h
      rw [splitK_eq] at h
      refine ⟨e, ?_, h⟩
      simp only [evalO, hrw, cond_false, callEff, hps, hx, Option.bind_some]
      exact he
  · rw [Option.bind_eq_some_iff] at h
    obtain ⟨e, he, h⟩ := h
    rw [splitK_eq] at h
    exact ⟨e, he, h⟩
theorem goK_some {o : Oper} {σ : St} {K : Eff × List RV → Option α} (hc : SndK C cK) (hg : guardOf ops σ o = some true) (h : goK C cK o σ K = some r) : ∃ x, stepO C ops o σ = some x ∧ K x = some r := by
  unfold goK at h
  obtain ⟨hd, h⟩ := bif_some h
  rw [Option.bind_eq_some_iff] at h
  obtain ⟨vs, hvs, h⟩ := h
  obtain ⟨e, he, h⟩ := evalK_some hc h
  obtain ⟨hn, h⟩ := bif_some h
  exact ⟨(e, vs), step_join hd (.inr ⟨hg, hvs, he, fun i hi => by simpa using List.all_eq_true.1 hn i hi⟩), h⟩
theorem skipK_some {o : Oper} {σ : St} {K : Eff × List RV → Option α} (hg : guardOf ops σ o = some false) (h : skipK C o K = some r) : ∃ x, stepO C ops o σ = some x ∧ K x = some r := by
  unfold skipK at h
  obtain ⟨hd, h⟩ := bif_some h
  exact ⟨_, step_join hd (.inl ⟨hg, rfl⟩), h⟩
theorem stepK_some {o : Oper} {σ : St} {K : Eff × List RV → Option α} (hc : SndK C cK) (h : stepK C cK ops o σ K = some r) : ∃ x, stepO C ops o σ = some x ∧ K x = some r := by
  unfold stepK at h
  cases hg : o.guard with
  | none => rw [hg] at h; exact goK_some hc (by unfold guardOf; rw [hg]) h
  | some gb =>
    obtain ⟨j, b⟩ := gb
    rw [hg] at h
    simp only at h
    split at h
    · rename_i d hd
      split at h
      · rename_i c hlc
        have gd : guardOf ops σ o = some (c == b) := by
          unfold guardOf
          rw [hg]
          simp only [hd, hlc]
        cases b <;> cases c <;> simp only [cond_true, cond_false] at h
        · exact goK_some hc gd h
        · exact skipK_some gd h
        · exact skipK_some gd h
        · exact goK_some hc gd h
      · rename_i hlc
        exact skipK_some (by unfold guardOf; rw [hg]; simp only [hd, hlc]) h
      · cases h
    · cases h
end
section
variable {C : Cx} {ops : Array Oper} {r : Ret × Mem}
def Gets (K0 : Ret × Mem → Option (Ret × Mem)) (r : Ret × Mem) (x : Option (Ret × Mem)) : Prop := ∃ q, x = some q ∧ K0 q = some r
variable {K0 : Ret × Mem → Option (Ret × Mem)} {cK : CallK}
theorem runOpsK_some (hc : SndK C cK) {K K' : St → Option (Ret × Mem)} (hK : ∀ σ, K σ = some r → Gets K0 r (K' σ)) : ∀ (l : List Oper) (σ : St), runOpsK C cK ops l K σ = some r → Gets K0 r (runOps C ops l K' σ)
  | [], σ, h => hK σ h
  | o :: l, σ, h => by
    simp only [runOpsK] at h
    obtain ⟨x, hx, h⟩ := stepK_some hc h
    simp only [runOps, hx, Option.bind_some]
    exact runOpsK_some hc hK l _ h
theorem runDrawK_some (hc : SndK C cK) {K K' : St → Option (Ret × Mem)} (hK : ∀ σ, K σ = some r → Gets K0 r (K' σ)) : ∀ (l : List Oper) (i : Nat) (acc : List Done) (σ : St), runDrawK C cK ops i l acc K σ = some r → Gets K0 r (runDraw C ops i l acc K' σ)
  | [], i, acc, σ, h => by
    simp only [runDrawK] at h
    obtain ⟨hp, h⟩ := bif_some h
    simp only [runDraw, hp, cond_true]
    exact hK σ h
  | o :: l, i, acc, σ, h => by
    simp only [runDrawK] at h
    obtain ⟨x, hx, h⟩ := stepK_some hc h
    simp only [runDraw, hx, Option.bind_some]
    exact runDrawK_some hc hK l _ _ _ h
theorem loopN_some {s s' : (St → Option (Ret × Mem)) → St → Option (Ret × Mem)} (h : ∀ a a' : St → Option (Ret × Mem), (∀ σ, a σ = some r → Gets K0 r (a' σ)) → ∀ σ, s a σ = some r → Gets K0 r (s' a' σ)) : ∀ (n : Nat) (σ : St), loopN s n σ = some r → Gets K0 r (loopN s' n σ)
  | 0, σ, hs => by cases hs
  | n + 1, σ, hs => h _ _ (loopN_some h n) σ hs
theorem runCK_some {N : Nat} (hc : SndK C cK) : ∀ (c : Code) {K K' : Ex → St → Option (Ret × Mem)} (hK : ∀ e σ, K e σ = some r → Gets K0 r (K' e σ)) (σ : St), runCK N C cK c K σ = some r → Gets K0 r (runC N C c K' σ)
  | .skip, K, K', hK, σ, h => hK _ _ h
  | .label _, K, K', hK, σ, h => hK _ _ h
  | .scope x, K, K', hK, σ, h => runCK_some hc x hK σ h
  | .ret, K, K', hK, σ, h => hK _ _ h
  | .exit id, K, K', hK, σ, h => hK _ _ h
  | .region id ops d, K, K', hK, σ, h => by
    cases d with
    | true => exact runDrawK_some hc (hK .normal) _ _ _ _ h
    | false => exact runOpsK_some hc (hK .normal) _ _ h
  | .seq x y, K, K', hK, σ, h => by
    refine runCK_some hc x (fun e τ hk => ?_) σ h
    cases e with
    | normal => exact runCK_some hc y hK τ hk
    | _ => exact hK _ _ hk
  | .cond c x y, K, K', hK, σ, h => by
    simp only [runCK, Option.bind_eq_some_iff] at h
    obtain ⟨v, hv, h⟩ := h
    simp only [runC, hv, Option.bind_some]
    split at h
    · rename_i t
      cases t with
      | true => exact runCK_some hc x hK σ h
      | false => exact runCK_some hc y hK σ h
    · cases h
  | .block id x, K, K', hK, σ, h => by
    refine runCK_some hc x (fun e τ hk => ?_) σ h
    cases e with
    | exit id' =>
      simp only at hk ⊢
      cases hb : Nat.beq id' id with
      | true => rw [hb] at hk; exact hK _ _ hk
      | false => rw [hb] at hk; exact hK _ _ hk
    | _ => exact hK _ _ hk
  | .loop x, K, K', hK, σ, h => by
    simp only [runCK] at h
    simp only [runC]
    refine loopN_some (fun a a' ha τ hs => ?_) N σ h
    refine runCK_some hc x (fun e υ hk => ?_) _ hs
    cases e with
    | normal => exact ha _ hk
    | _ => exact hK _ _ hk
  | .rangeFunc .., K, K', hK, σ, h => by cases h
  | .goto _, K, K', hK, σ, h => by cases h
  | .refuse _, K, K', hK, σ, h => by cases h
end
theorem runFK_some {T : Tab} {ok : OrK} : ∀ (N f : Nat) (ps : List PV) (K : Ret → Option (Ret × Mem)) (r : Ret × Mem), runFK T ok N f ps K = some r → ∃ x M, runF T ok.orc N f (ps.map .v) [] = some (x, M) ∧ K x = some r
  | 0, f, ps, K, r, h => by cases h
  | N + 1, f, ps, K, r, h => by
    simp only [runFK] at h
    split at h
    · cases h
    · rename_i fi hfi
      obtain ⟨hb, h⟩ := bif_some h
      have hc : SndK ⟨T, callA ok.orc (runF T ok.orc N), callB ok.orc (runF T ok.orc N), f, fi.ntmps⟩ (callAK ok (runFK T ok N)) := fun g qs K' r' hk => by
        unfold callAK at hk
        show ∃ x, callA ok.orc (runF T ok.orc N) g qs = some x ∧ K' x = some r'
        unfold callA
        cases ho : ok g with
        | some o =>
          rw [ho] at hk
          simp only [Option.bind_eq_some_iff] at hk
          obtain ⟨x, hx, hk⟩ := hk
          obtain ⟨h1, hk⟩ := bif_some hk
          exact ⟨x.2, by simp only [OrK.orc, ho, hx, Option.bind_some, h1, cond_true], hk⟩
        | none =>
          rw [ho] at hk
          obtain ⟨x, M, hx, hk⟩ := runFK_some N g qs K' r' hk
          have e : ok.orc.a g = none := by simp only [OrK.orc, ho, Option.bind_none]
          exact ⟨x, by simp only [e, hx, Option.bind_some], hk⟩
      obtain ⟨q, h1, h2⟩ := runCK_some (K0 := fun q => K q.1) (K' := endK T [] fi.results) hc fi.body (fun e σ hk => by
        simp only [Option.bind_eq_some_iff] at hk
        exact hk) _ h
      refine ⟨q.1, q.2, ?_, h2⟩
      simp only [runF, hfi, hb, cond_true]
      exact h1
theorem runK_some {T : Tab} {ok : OrK} {N f : Nat} {ps : List PV} {r : Ret} (h : runK T ok N f ps = some (r, [])) : run T ok.orc N f ps = some r := by
  obtain ⟨x, M, h1, h2⟩ := runFK_some N f ps _ _ h
  cases h2
  unfold run
  rw [h1]
  rfl
def OrK.Ok (P : Program) (ok : OrK) : Prop := ∀ g o, ok g = some o → ∀ ps r, o ps = some (true, r) → SndA1 P g ps r
theorem OrK.Ok.orc {P : Program} {ok : OrK} (h : ok.Ok P) : OrcOk P ok.orc := by
  refine ⟨fun g o ho ps r hr => ?_, fun g o ho => by simp [OrK.orc] at ho⟩
  simp only [OrK.orc, Option.bind_eq_some_iff, Option.some.injEq] at ho
  obtain ⟨f, hf, rfl⟩ := ho
  simp only [Option.bind_eq_some_iff] at hr
  obtain ⟨x, hx, hr⟩ := hr
  obtain ⟨h1, hr⟩ := bif_some hr
  cases hr
  exact h g f hf ps x.2 (by rw [hx, ← h1])
theorem runK_sound {P : Program} {T : Tab} {ok : OrK} {N f : Nat} {ps : List PV} {r : Ret} (hT : TabOk P T) (hm : P.follows .mixedOrders = true) (hO : ok.Ok P) (h : runK T ok N f ps = some (r, [])) : SndA1 P f ps r := run_sound hT hm hO.orc (runK_some h)
abbrev OrL := List (Nat × (List PV → Option (Bool × Ret)))
def OrL.k (l : OrL) : OrK := asc l
def OneOk (P : Program) (f : Nat) (o : List PV → Option (Bool × Ret)) : Prop := ∀ ps r, o ps = some (true, r) → SndA1 P f ps r
theorem OrL.ok {P : Program} {l : OrL} (h : AllP (fun x : Nat × (List PV → Option (Bool × Ret)) => OneOk P x.1 x.2) l) : (OrL.k l).Ok P := fun g o ho ps r hr => h.of (asc_mem ho) ps r hr
def listed (l : List (List PV × Ret)) : List PV → Option (Bool × Ret) := fun ps => (findK l ps).bind fun r => some (true, r)
theorem listed_ok {P : Program} {t : Known} (h : t.Ok P) {f : Nat} {l : List (List PV × Ret)} (hl : (f, l) ∈ t) : OneOk P f (listed l) := fun ps r hr => by
  simp only [listed, Option.bind_eq_some_iff, Option.some.injEq, Prod.mk.injEq, true_and] at hr
  obtain ⟨r', h1, rfl⟩ := hr
  exact h _ hl _ (findK_mem h1)
def PV.val1 : PV → Value
  | .n k x => .int k x
  | .b x => .bool x
  | .s x => .string x
  | _ => .nilIface
def PV.val : PV → Value
  | .a cs => .agg (cs.map PV.val1).toArray
  | x => x.val1
theorem val1_eq {F : Nat → Prop} {w : World} {p : PV} {v : Value} (hp : p.flat1 = true) (h : RP F w p v) : v = p.val1 := by
  cases h <;> first | rfl | (simp [PV.flat1] at hp; done)
theorem val1_rp {F : Nat → Prop} {w : World} {p : PV} (hp : p.flat1 = true) : RP F w p p.val1 ∧ p.val1.oneCell' = true := by
  cases p <;> first | (simp [PV.flat1] at hp; done) | exact ⟨by constructor, rfl⟩
theorem val_eq {F : Nat → Prop} {w : World} {p : PV} {v : Value} (hp : p.flat2 = true) (h : RP F w p v) : v = p.val := by
  cases p with
  | a cs =>
    cases h with
    | a _ vs hl h1 h =>
      have e : vs = cs.map PV.val1 := List.ext_getElem? fun i => by
        rw [List.getElem?_map]
        cases hc : cs[i]? with
        | none => rw [Option.map_none, List.getElem?_eq_none (by have := List.getElem?_eq_none_iff.1 hc; omega)]
        | some c =>
          have hi := (List.getElem?_eq_some_iff.1 hc).1
          have hv : vs[i]? = some (vs[i]'(by omega)) := List.getElem?_eq_getElem (by omega)
          rw [hv, Option.map_some, val1_eq (List.all_eq_true.1 hp c (List.mem_of_getElem? hc)) (h i c _ hc hv)]
      rw [e]; rfl
  | _ => exact val1_eq (by first | exact hp | (simp [PV.flat2, PV.flat1] at hp)) h
theorem val_rp {F : Nat → Prop} {w : World} {p : PV} (hp : p.flat2 = true) : RP F w p p.val := by
  cases p with
  | a cs =>
    refine .a cs (cs.map PV.val1) (by simp) (fun v hv => ?_) fun i p v hi hv => ?_
    · obtain ⟨c, hc, rfl⟩ := List.mem_map.1 hv
      exact (val1_rp (F := F) (w := w) (List.all_eq_true.1 hp c hc)).2
    · rw [List.getElem?_map, hi] at hv
      cases hv
      exact (val1_rp (List.all_eq_true.1 hp p (List.mem_of_getElem? hi))).1
  | _ => exact (val1_rp (by first | exact hp | (simp [PV.flat2, PV.flat1] at hp))).1
theorem snd_of_rets {P : Program} {f : Nat} {ps : List PV} {x : PV} (hent : Enters P f) (hp : ps.all PV.flat2 = true) (hx : x.flat2 = true) (h : ∀ w, Calls P f (ps.map PV.val).toArray w (Rets x.val w)) : SndA1 P f ps (.v x) := by
  refine ⟨hent, fun w F vals hF hal => ?_⟩
  have e : vals = ps.map PV.val := List.ext_getElem? fun i => by
    rw [List.getElem?_map]
    have hl := hal.1
    cases hc : ps[i]? with
    | none => rw [Option.map_none, List.getElem?_eq_none (by have := List.getElem?_eq_none_iff.1 hc; omega)]
    | some c =>
      have hi := (List.getElem?_eq_some_iff.1 hc).1
      have hv : vals[i]? = some (vals[i]'(by omega)) := List.getElem?_eq_getElem (by omega)
      rw [hv, Option.map_some, val_eq (List.all_eq_true.1 hp c (List.mem_of_getElem? hc)) (hal.2 i c _ hc hv)]
  rw [e]
  exact (h w).mono fun e w' ⟨he, hg⟩ => ⟨x.val, F, he, hg, fun k hk => hk, fun k hk => .inl hk, val_rp hx⟩
theorem rets_of_snd {P : Program} {f : Nat} {ps : List PV} {x : PV} (h : SndA1 P f ps (.v x)) (hp : ps.all PV.flat2 = true) (hx : x.flat2 = true) (w : World) : Calls P f (ps.map PV.val).toArray w (Rets x.val w) := by
  refine Calls.mono (h.2 w (fun _ => False) (ps.map PV.val) (fun k hk => hk.elim) ⟨by simp, fun i p v hi hv => ?_⟩) fun e w' ⟨v, F', he, hg, _, _, hr⟩ => ⟨by rw [he, val_eq hx hr], hg⟩
  rw [List.getElem?_map, hi] at hv
  cases hv
  exact val_rp (List.all_eq_true.1 hp p (List.mem_of_getElem? hi))
end Go.Rx
namespace Go.Rx
open Go.RowKit Go.Sx
def PV.i64 : PV → Option Int
  | .n .i64 x => some x
  | _ => none
def ints (cs : List PV) : Option (List Int) := mapO PV.i64 cs
theorem ints_eq : ∀ {cs : List PV} {l : List Int}, ints cs = some l → cs = l.map fun x => .n .i64 x
  | [], l, h => by cases h; rfl
  | c :: cs, l, h => by
    simp only [ints, mapO, Option.bind_eq_some_iff, Option.some.injEq] at h
    obtain ⟨x, hx, ys, hys, rfl⟩ := h
    rw [List.map_cons, ← ints_eq (cs := cs) hys]
    unfold PV.i64 at hx
    split at hx
    · cases hx; rfl
    · cases hx
def ivC (p : Iv) : List PV := [.n .i64 p.lo, .n .i64 p.hi]
def ivD (cs : List PV) : Option Iv := (ints cs).bind fun l => bif Nat.beq l.length 2 then some ⟨(l.getD 0 0), (l.getD 1 0)⟩ else none
theorem ivD_eq {cs : List PV} {p : Iv} (h : ivD cs = some p) : cs = ivC p := by
  simp only [ivD, Option.bind_eq_some_iff] at h
  obtain ⟨l, hl, h⟩ := h
  obtain ⟨hn, h⟩ := bif_some h
  have hn := Nat.eq_of_beq_eq_true hn
  rw [ints_eq hl]
  cases h
  obtain _ | ⟨x0, l0⟩ := l <;> simp only [List.length_cons, List.length_nil, Nat.add_right_cancel_iff] at hn <;> first | (exact absurd hn (by omega)) | skip
  obtain _ | ⟨x1, l1⟩ := l0 <;> simp only [List.length_cons, List.length_nil, Nat.add_right_cancel_iff] at hn <;> first | (exact absurd hn (by omega)) | skip
  obtain _ | ⟨y, l⟩ := l1 <;> simp only [List.length_cons, List.length_nil] at hn <;> first | (exact absurd hn (by omega)) | skip
  rfl
def z3C (p : Z3) : List PV := [.n .i64 p.x, .n .i64 p.y, .n .i64 p.z]
def z3D (cs : List PV) : Option Z3 := (ints cs).bind fun l => bif Nat.beq l.length 3 then some ⟨(l.getD 0 0), (l.getD 1 0), (l.getD 2 0)⟩ else none
theorem z3D_eq {cs : List PV} {p : Z3} (h : z3D cs = some p) : cs = z3C p := by
  simp only [z3D, Option.bind_eq_some_iff] at h
  obtain ⟨l, hl, h⟩ := h
  obtain ⟨hn, h⟩ := bif_some h
  have hn := Nat.eq_of_beq_eq_true hn
  rw [ints_eq hl]
  cases h
  obtain _ | ⟨x0, l0⟩ := l <;> simp only [List.length_cons, List.length_nil, Nat.add_right_cancel_iff] at hn <;> first | (exact absurd hn (by omega)) | skip
  obtain _ | ⟨x1, l1⟩ := l0 <;> simp only [List.length_cons, List.length_nil, Nat.add_right_cancel_iff] at hn <;> first | (exact absurd hn (by omega)) | skip
  obtain _ | ⟨x2, l2⟩ := l1 <;> simp only [List.length_cons, List.length_nil, Nat.add_right_cancel_iff] at hn <;> first | (exact absurd hn (by omega)) | skip
  obtain _ | ⟨y, l⟩ := l2 <;> simp only [List.length_cons, List.length_nil] at hn <;> first | (exact absurd hn (by omega)) | skip
  rfl
def v3C (p : V3) : List PV := [.n .i64 p.x.lo, .n .i64 p.x.hi, .n .i64 p.y.lo, .n .i64 p.y.hi, .n .i64 p.z.lo, .n .i64 p.z.hi]
def v3D (cs : List PV) : Option V3 := (ints cs).bind fun l => bif Nat.beq l.length 6 then some ⟨⟨(l.getD 0 0), (l.getD 1 0)⟩, ⟨(l.getD 2 0), (l.getD 3 0)⟩, ⟨(l.getD 4 0), (l.getD 5 0)⟩⟩ else none
theorem v3D_eq {cs : List PV} {p : V3} (h : v3D cs = some p) : cs = v3C p := by
  simp only [v3D, Option.bind_eq_some_iff] at h
  obtain ⟨l, hl, h⟩ := h
  obtain ⟨hn, h⟩ := bif_some h
  have hn := Nat.eq_of_beq_eq_true hn
  rw [ints_eq hl]
  cases h
  obtain _ | ⟨x0, l0⟩ := l <;> simp only [List.length_cons, List.length_nil, Nat.add_right_cancel_iff] at hn <;> first | (exact absurd hn (by omega)) | skip
  obtain _ | ⟨x1, l1⟩ := l0 <;> simp only [List.length_cons, List.length_nil, Nat.add_right_cancel_iff] at hn <;> first | (exact absurd hn (by omega)) | skip
  obtain _ | ⟨x2, l2⟩ := l1 <;> simp only [List.length_cons, List.length_nil, Nat.add_right_cancel_iff] at hn <;> first | (exact absurd hn (by omega)) | skip
  obtain _ | ⟨x3, l3⟩ := l2 <;> simp only [List.length_cons, List.length_nil, Nat.add_right_cancel_iff] at hn <;> first | (exact absurd hn (by omega)) | skip
  obtain _ | ⟨x4, l4⟩ := l3 <;> simp only [List.length_cons, List.length_nil, Nat.add_right_cancel_iff] at hn <;> first | (exact absurd hn (by omega)) | skip
  obtain _ | ⟨x5, l5⟩ := l4 <;> simp only [List.length_cons, List.length_nil, Nat.add_right_cancel_iff] at hn <;> first | (exact absurd hn (by omega)) | skip
  obtain _ | ⟨y, l⟩ := l5 <;> simp only [List.length_cons, List.length_nil] at hn <;> first | (exact absurd hn (by omega)) | skip
  rfl
def poC (p : Po) : List PV := [.n .i64 p.r.x.x.lo, .n .i64 p.r.x.x.hi, .n .i64 p.r.x.y.lo, .n .i64 p.r.x.y.hi, .n .i64 p.r.x.z.lo, .n .i64 p.r.x.z.hi, .n .i64 p.r.y.x.lo, .n .i64 p.r.y.x.hi, .n .i64 p.r.y.y.lo, .n .i64 p.r.y.y.hi, .n .i64 p.r.y.z.lo, .n .i64 p.r.y.z.hi, .n .i64 p.r.z.x.lo, .n .i64 p.r.z.x.hi, .n .i64 p.r.z.y.lo, .n .i64 p.r.z.y.hi, .n .i64 p.r.z.z.lo, .n .i64 p.r.z.z.hi, .n .i64 p.t.x.lo, .n .i64 p.t.x.hi, .n .i64 p.t.y.lo, .n .i64 p.t.y.hi, .n .i64 p.t.z.lo, .n .i64 p.t.z.hi]
def poD (cs : List PV) : Option Po := (ints cs).bind fun l => bif Nat.beq l.length 24 then some ⟨⟨⟨⟨(l.getD 0 0), (l.getD 1 0)⟩, ⟨(l.getD 2 0), (l.getD 3 0)⟩, ⟨(l.getD 4 0), (l.getD 5 0)⟩⟩, ⟨⟨(l.getD 6 0), (l.getD 7 0)⟩, ⟨(l.getD 8 0), (l.getD 9 0)⟩, ⟨(l.getD 10 0), (l.getD 11 0)⟩⟩, ⟨⟨(l.getD 12 0), (l.getD 13 0)⟩, ⟨(l.getD 14 0), (l.getD 15 0)⟩, ⟨(l.getD 16 0), (l.getD 17 0)⟩⟩⟩, ⟨⟨(l.getD 18 0), (l.getD 19 0)⟩, ⟨(l.getD 20 0), (l.getD 21 0)⟩, ⟨(l.getD 22 0), (l.getD 23 0)⟩⟩⟩ else none
theorem poD_eq {cs : List PV} {p : Po} (h : poD cs = some p) : cs = poC p := by
  simp only [poD, Option.bind_eq_some_iff] at h
  obtain ⟨l, hl, h⟩ := h
  obtain ⟨hn, h⟩ := bif_some h
  have hn := Nat.eq_of_beq_eq_true hn
  rw [ints_eq hl]
  cases h
  obtain _ | ⟨x0, l0⟩ := l <;> simp only [List.length_cons, List.length_nil, Nat.add_right_cancel_iff] at hn <;> first | (exact absurd hn (by omega)) | skip
  obtain _ | ⟨x1, l1⟩ := l0 <;> simp only [List.length_cons, List.length_nil, Nat.add_right_cancel_iff] at hn <;> first | (exact absurd hn (by omega)) | skip
  obtain _ | ⟨x2, l2⟩ := l1 <;> simp only [List.length_cons, List.length_nil, Nat.add_right_cancel_iff] at hn <;> first | (exact absurd hn (by omega)) | skip
  obtain _ | ⟨x3, l3⟩ := l2 <;> simp only [List.length_cons, List.length_nil, Nat.add_right_cancel_iff] at hn <;> first | (exact absurd hn (by omega)) | skip
  obtain _ | ⟨x4, l4⟩ := l3 <;> simp only [List.length_cons, List.length_nil, Nat.add_right_cancel_iff] at hn <;> first | (exact absurd hn (by omega)) | skip
  obtain _ | ⟨x5, l5⟩ := l4 <;> simp only [List.length_cons, List.length_nil, Nat.add_right_cancel_iff] at hn <;> first | (exact absurd hn (by omega)) | skip
  obtain _ | ⟨x6, l6⟩ := l5 <;> simp only [List.length_cons, List.length_nil, Nat.add_right_cancel_iff] at hn <;> first | (exact absurd hn (by omega)) | skip
  obtain _ | ⟨x7, l7⟩ := l6 <;> simp only [List.length_cons, List.length_nil, Nat.add_right_cancel_iff] at hn <;> first | (exact absurd hn (by omega)) | skip
  obtain _ | ⟨x8, l8⟩ := l7 <;> simp only [List.length_cons, List.length_nil, Nat.add_right_cancel_iff] at hn <;> first | (exact absurd hn (by omega)) | skip
  obtain _ | ⟨x9, l9⟩ := l8 <;> simp only [List.length_cons, List.length_nil, Nat.add_right_cancel_iff] at hn <;> first | (exact absurd hn (by omega)) | skip
  obtain _ | ⟨x10, l10⟩ := l9 <;> simp only [List.length_cons, List.length_nil, Nat.add_right_cancel_iff] at hn <;> first | (exact absurd hn (by omega)) | skip
  obtain _ | ⟨x11, l11⟩ := l10 <;> simp only [List.length_cons, List.length_nil, Nat.add_right_cancel_iff] at hn <;> first | (exact absurd hn (by omega)) | skip
  obtain _ | ⟨x12, l12⟩ := l11 <;> simp only [List.length_cons, List.length_nil, Nat.add_right_cancel_iff] at hn <;> first | (exact absurd hn (by omega)) | skip
  obtain _ | ⟨x13, l13⟩ := l12 <;> simp only [List.length_cons, List.length_nil, Nat.add_right_cancel_iff] at hn <;> first | (exact absurd hn (by omega)) | skip
  obtain _ | ⟨x14, l14⟩ := l13 <;> simp only [List.length_cons, List.length_nil, Nat.add_right_cancel_iff] at hn <;> first | (exact absurd hn (by omega)) | skip
  obtain _ | ⟨x15, l15⟩ := l14 <;> simp only [List.length_cons, List.length_nil, Nat.add_right_cancel_iff] at hn <;> first | (exact absurd hn (by omega)) | skip
  obtain _ | ⟨x16, l16⟩ := l15 <;> simp only [List.length_cons, List.length_nil, Nat.add_right_cancel_iff] at hn <;> first | (exact absurd hn (by omega)) | skip
  obtain _ | ⟨x17, l17⟩ := l16 <;> simp only [List.length_cons, List.length_nil, Nat.add_right_cancel_iff] at hn <;> first | (exact absurd hn (by omega)) | skip
  obtain _ | ⟨x18, l18⟩ := l17 <;> simp only [List.length_cons, List.length_nil, Nat.add_right_cancel_iff] at hn <;> first | (exact absurd hn (by omega)) | skip
  obtain _ | ⟨x19, l19⟩ := l18 <;> simp only [List.length_cons, List.length_nil, Nat.add_right_cancel_iff] at hn <;> first | (exact absurd hn (by omega)) | skip
  obtain _ | ⟨x20, l20⟩ := l19 <;> simp only [List.length_cons, List.length_nil, Nat.add_right_cancel_iff] at hn <;> first | (exact absurd hn (by omega)) | skip
  obtain _ | ⟨x21, l21⟩ := l20 <;> simp only [List.length_cons, List.length_nil, Nat.add_right_cancel_iff] at hn <;> first | (exact absurd hn (by omega)) | skip
  obtain _ | ⟨x22, l22⟩ := l21 <;> simp only [List.length_cons, List.length_nil, Nat.add_right_cancel_iff] at hn <;> first | (exact absurd hn (by omega)) | skip
  obtain _ | ⟨x23, l23⟩ := l22 <;> simp only [List.length_cons, List.length_nil, Nat.add_right_cancel_iff] at hn <;> first | (exact absurd hn (by omega)) | skip
  obtain _ | ⟨y, l⟩ := l23 <;> simp only [List.length_cons, List.length_nil] at hn <;> first | (exact absurd hn (by omega)) | skip
  rfl
end Go.Rx
namespace Go.Sx
theorem sq_le {x y : Int} (h0 : 0 ≤ x) (h : x ≤ y) : x * x ≤ y * y := Int.mul_le_mul h h h0 (by omega)
theorem sq_nonneg (x : Int) : 0 ≤ x * x := by
  rcases Int.le_total 0 x with h | h
  · exact Int.mul_nonneg h h
  · have := Int.mul_nonneg (a := -x) (b := -x) (by omega) (by omega)
    rwa [Int.neg_mul_neg] at this
end Go.Sx
namespace Go.Sx
structure R3 where
  x : Int
  y : Int
  z : Int
structure RM where
  x : R3
  y : R3
  z : R3
def R3.dot (a b : R3) : Int := a.x * b.x + a.y * b.y + a.z * b.z
def RM.tr (m : RM) : RM := ⟨⟨m.x.x, m.y.x, m.z.x⟩, ⟨m.x.y, m.y.y, m.z.y⟩, ⟨m.x.z, m.y.z, m.z.z⟩⟩
def RM.app (m : RM) (v : R3) : R3 := ⟨R3.dot m.x v, R3.dot m.y v, R3.dot m.z v⟩
def RM.mul (a b : RM) : RM := ⟨b.tr.app a.x, b.tr.app a.y, b.tr.app a.z⟩
structure VIn (v : V3) (m : Int) (r : R3) : Prop where
  x : In v.x m r.x
  y : In v.y m r.y
  z : In v.z m r.z
structure MIn (v : M3) (m : Int) (r : RM) : Prop where
  x : VIn v.x m r.x
  y : VIn v.y m r.y
  z : VIn v.z m r.z
structure VOk (v : V3) : Prop where
  x : Ok v.x
  y : Ok v.y
  z : Ok v.z
structure MOk (v : M3) : Prop where
  x : VOk v.x
  y : VOk v.y
  z : VOk v.z
structure RB (B : Int) (r : R3) : Prop where
  x : -B ≤ r.x ∧ r.x ≤ B
  y : -B ≤ r.y ∧ r.y ≤ B
  z : -B ≤ r.z ∧ r.z ≤ B
structure RMB (B : Int) (r : RM) : Prop where
  x : RB B r.x
  y : RB B r.y
  z : RB B r.z
theorem MIn.tr {v : M3} {m : Int} {r : RM} (h : MIn v m r) : MIn v.tr m r.tr := ⟨⟨h.x.x, h.y.x, h.z.x⟩, ⟨h.x.y, h.y.y, h.z.y⟩, ⟨h.x.z, h.y.z, h.z.z⟩⟩
theorem MOk.tr {v : M3} (h : MOk v) : MOk v.tr := ⟨⟨h.x.x, h.y.x, h.z.x⟩, ⟨h.x.y, h.y.y, h.z.y⟩, ⟨h.x.z, h.y.z, h.z.z⟩⟩
theorem RMB.tr {B : Int} {v : RM} (h : RMB B v) : RMB B v.tr := ⟨⟨h.x.x, h.y.x, h.z.x⟩, ⟨h.x.y, h.y.y, h.z.y⟩, ⟨h.x.z, h.y.z, h.z.z⟩⟩
theorem dot_In {a b : V3} {m k B C : Int} {x y : R3} (va : VOk a) (vb : VOk b) (hm : 0 ≤ m) (hk : 0 ≤ k) (hx : VIn a m x) (hy : VIn b k y) (bx : RB (B * m) x) (by' : RB (C * k) y) (hB : 3 * (B * C) ≤ 140737488355328) :
    In (V3.dot a b) (65536 * (m * k)) (R3.dot x y) := by
  have hmk : 0 ≤ m * k := Int.mul_nonneg hm hk
  have p1 := abs_mul bx.x by'.x
  have p2 := abs_mul bx.y by'.y
  have p3 := abs_mul bx.z by'.z
  have e : B * m * (C * k) = B * C * (m * k) := by grind
  rw [e] at p1 p2 p3
  have h3 : 3 * (B * C) * (m * k) ≤ 140737488355328 * (m * k) := Int.mul_le_mul_of_nonneg_right hB hmk
  rw [Int.mul_assoc] at h3
  have pos : 0 ≤ B * C * (m * k) := by omega
  unfold V3.dot R3.dot
  have i1 := mul_In va.x vb.x hm hk hx.x hy.x (by omega) (by omega)
  have i2 := mul_In va.y vb.y hm hk hx.y hy.y (by omega) (by omega)
  have i3 := mul_In va.z vb.z hm hk hx.z hy.z (by omega) (by omega)
  have i4 := add_In (mul_Ok _ _) (mul_Ok _ _) (by omega) i1 i2 (by omega) (by omega)
  exact add_In (add_Ok _ _) (mul_Ok _ _) (by omega) i4 i3 (by omega) (by omega)
theorem app_In {a : M3} {v : V3} {m k B C : Int} {x : RM} {y : R3} (va : MOk a) (vb : VOk v) (hm : 0 ≤ m) (hk : 0 ≤ k) (hx : MIn a m x) (hy : VIn v k y) (bx : RMB (B * m) x) (by' : RB (C * k) y) (hB : 3 * (B * C) ≤ 140737488355328) :
    VIn (M3.apply a v) (65536 * (m * k)) (RM.app x y) :=
  ⟨dot_In va.x vb hm hk hx.x hy bx.x by' hB, dot_In va.y vb hm hk hx.y hy bx.y by' hB, dot_In va.z vb hm hk hx.z hy bx.z by' hB⟩
theorem neg_In {a : Iv} {m x : Int} (v : Ok a) (h : In a m x) : In (Iv.neg a) m (-x) := by
  have q1 := h.lo
  have q2 := h.hi
  rw [neg_of v]
  constructor <;> simp only [Int.neg_mul] <;> omega
theorem neg_Ok {a : Iv} (v : Ok a) : Ok (Iv.neg a) := by rw [neg_of v]; unfold Ok at *; simp only; omega
theorem one_Ok : Ok iv1 := by unfold Ok; decide
theorem zero_Ok : Ok iv0 := by unfold Ok; decide
end Go.Sx
namespace Go.Sx
theorem of_id {n : Int} (h : -2147483648 ≤ n ∧ n ≤ 2147483648) : Iv.of n = ⟨n, n⟩ := by
  unfold Iv.of; rw [clampI_id (by omega)]
structure VNear (a b : R3) : Prop where
  x : -((1099511627776 : Int) * (340282366920938463463374607431768211456 : Int)) ≤ a.x - (340282366920938463463374607431768211456 : Int) * b.x ∧ a.x - (340282366920938463463374607431768211456 : Int) * b.x ≤ (1099511627776 : Int) * (340282366920938463463374607431768211456 : Int)
  y : -((1099511627776 : Int) * (340282366920938463463374607431768211456 : Int)) ≤ a.y - (340282366920938463463374607431768211456 : Int) * b.y ∧ a.y - (340282366920938463463374607431768211456 : Int) * b.y ≤ (1099511627776 : Int) * (340282366920938463463374607431768211456 : Int)
  z : -((1099511627776 : Int) * (340282366920938463463374607431768211456 : Int)) ≤ a.z - (340282366920938463463374607431768211456 : Int) * b.z ∧ a.z - (340282366920938463463374607431768211456 : Int) * b.z ≤ (1099511627776 : Int) * (340282366920938463463374607431768211456 : Int)
structure MNear (a b : RM) : Prop where
  x : VNear a.x b.x
  y : VNear a.y b.y
  z : VNear a.z b.z
structure VMeet (a b : V3) : Prop where
  x : Iv.meetB a.x b.x = true
  y : Iv.meetB a.y b.y = true
  z : Iv.meetB a.z b.z = true
structure MMeet (a b : M3) : Prop where
  x : VMeet a.x b.x
  y : VMeet a.y b.y
  z : VMeet a.z b.z
end Go.Sx
namespace Go.Sx
theorem ceil_mul {k b : Int} (hb : 0 < b) : ceilI (b * k) b = k := by
  have h := ceil_of_mul (a := b * k) (b := b) hb (by rw [Int.mul_ediv_cancel_left _ (by omega)]; exact Int.mul_comm _ _)
  rw [← h, Int.mul_ediv_cancel_left _ (by omega)]
end Go.Sx
namespace Go.Sx
structure Dg (P E : Int) (B : RM) : Prop where
  x : 0 ≤ P - R3.dot B.x B.x ∧ P - R3.dot B.x B.x ≤ E
  y : 0 ≤ P - R3.dot B.y B.y ∧ P - R3.dot B.y B.y ≤ E
  z : 0 ≤ P - R3.dot B.z B.z ∧ P - R3.dot B.z B.z ≤ E
  xy : R3.dot B.x B.y = 0
  xz : R3.dot B.x B.z = 0
  yz : R3.dot B.y B.z = 0
end Go.Sx
namespace Go.Sx
theorem abs_of_sq {x M : Int} (hM : 0 ≤ M) (h : x * x ≤ M * M) : -M ≤ x ∧ x ≤ M := by
  constructor
  · rcases Int.lt_or_le x (-M) with g | g
    · have := sq_le (x := M + 1) (y := -x) (by omega) (by omega)
      rw [Int.neg_mul_neg] at this
      have e : (M + 1) * (M + 1) = M * M + 2 * M + 1 := by grind
      omega
    · exact g
  · rcases Int.lt_or_le M x with g | g
    · have := sq_le (x := M + 1) (y := x) (by omega) (by omega)
      have e : (M + 1) * (M + 1) = M * M + 2 * M + 1 := by grind
      omega
    · exact g
theorem rb_of_dot {r : R3} {M : Int} (hM : 0 ≤ M) (h : R3.dot r r ≤ M * M) : RB M r := by
  have s1 := sq_nonneg r.x
  have s2 := sq_nonneg r.y
  have s3 := sq_nonneg r.z
  unfold R3.dot at h
  exact ⟨abs_of_sq hM (by omega), abs_of_sq hM (by omega), abs_of_sq hM (by omega)⟩
structure Orth (Q T : Int) (X : RM) : Prop where
  x : Q - T ≤ R3.dot X.x X.x ∧ R3.dot X.x X.x ≤ Q
  y : Q - T ≤ R3.dot X.y X.y ∧ R3.dot X.y X.y ≤ Q
  z : Q - T ≤ R3.dot X.z X.z ∧ R3.dot X.z X.z ≤ Q
  xy : -T ≤ R3.dot X.x X.y ∧ R3.dot X.x X.y ≤ T
  xz : -T ≤ R3.dot X.x X.z ∧ R3.dot X.x X.z ≤ T
  yz : -T ≤ R3.dot X.y X.z ∧ R3.dot X.y X.z ≤ T
theorem Orth.rmb {X : RM} {M T : Int} (o : Orth (M * M) T X) (hM : 0 ≤ M) : RMB M X := ⟨rb_of_dot hM o.x.2, rb_of_dot hM o.y.2, rb_of_dot hM o.z.2⟩
end Go.Sx
namespace Go.Sx
structure Sub (a b : Iv) : Prop where
  ok : Ok a
  ok' : Ok b
  lo : b.lo ≤ a.lo
  hi : a.hi ≤ b.hi
theorem Sub.within {a b : Iv} (h : Sub a b) : Iv.within a b = true := by
  simp only [Iv.within, valid_of h.ok, valid_of h.ok', Bool.true_and, Bool.and_eq_true, decide_eq_true_eq]
  exact ⟨h.lo, h.hi⟩
theorem Sub.refl {a : Iv} (h : Ok a) : Sub a a := ⟨h, h, Int.le_refl _, Int.le_refl _⟩
theorem Sub.trans {a b c : Iv} (h : Sub a b) (k : Sub b c) : Sub a c := ⟨h.ok, k.ok', by have := h.lo; have := k.lo; omega, by have := h.hi; have := k.hi; omega⟩
theorem in1 {a b : Iv} (h : Sub a b) {x : Int} (h1 : a.lo ≤ x) (h2 : x ≤ a.hi) : In b 1 x := ⟨by have := h.lo; omega, by have := h.hi; omega⟩
theorem sub_mul {a a' b b' : Iv} (h : Sub a a') (k : Sub b b') : Sub (Iv.mul a b) (Iv.mul a' b') := by
  refine ⟨mul_Ok _ _, mul_Ok _ _, ?_, ?_⟩
  all_goals
    have va := h.ok
    have vb := k.ok
    have p1 := mul_prod (by decide) (by decide) (in1 h (x := a.lo) (Int.le_refl _) va.2.1) (in1 k (x := b.lo) (Int.le_refl _) vb.2.1)
    have p2 := mul_prod (by decide) (by decide) (in1 h (x := a.lo) (Int.le_refl _) va.2.1) (in1 k (x := b.hi) vb.2.1 (Int.le_refl _))
    have p3 := mul_prod (by decide) (by decide) (in1 h (x := a.hi) va.2.1 (Int.le_refl _)) (in1 k (x := b.lo) (Int.le_refl _) vb.2.1)
    have p4 := mul_prod (by decide) (by decide) (in1 h (x := a.hi) va.2.1 (Int.le_refl _)) (in1 k (x := b.hi) vb.2.1 (Int.le_refl _))
    simp only [Iv.mul, valid_of h.ok, valid_of h.ok', valid_of k.ok, valid_of k.ok', Bool.and_self, cond_true]
    simp only [Int.mul_one] at p1 p2 p3 p4
    refine clamp_mono ?_
  · have : min4 (a'.lo * b'.lo) (a'.lo * b'.hi) (a'.hi * b'.lo) (a'.hi * b'.hi) ≤ min4 (a.lo * b.lo) (a.lo * b.hi) (a.hi * b.lo) (a.hi * b.hi) := by
      generalize min4 (a'.lo * b'.lo) (a'.lo * b'.hi) (a'.hi * b'.lo) (a'.hi * b'.hi) = m at *
      unfold min4; omega
    omega
  · have : max4 (a.lo * b.lo) (a.lo * b.hi) (a.hi * b.lo) (a.hi * b.hi) ≤ max4 (a'.lo * b'.lo) (a'.lo * b'.hi) (a'.hi * b'.lo) (a'.hi * b'.hi) := by
      generalize max4 (a'.lo * b'.lo) (a'.lo * b'.hi) (a'.hi * b'.lo) (a'.hi * b'.hi) = m at *
      unfold max4; omega
    unfold ceilI
    omega
structure VSub (a b : V3) : Prop where
  x : Sub a.x b.x
  y : Sub a.y b.y
  z : Sub a.z b.z
structure MSub (a b : M3) : Prop where
  x : VSub a.x b.x
  y : VSub a.y b.y
  z : VSub a.z b.z
theorem VSub.refl {a : V3} (h : VOk a) : VSub a a := ⟨.refl h.x, .refl h.y, .refl h.z⟩
theorem MSub.refl {a : M3} (h : MOk a) : MSub a a := ⟨.refl h.x, .refl h.y, .refl h.z⟩
theorem VSub.within {a b : V3} (h : VSub a b) : V3.within a b = true := by simp only [V3.within, h.x.within, h.y.within, h.z.within, Bool.and_self]
theorem MSub.within {a b : M3} (h : MSub a b) : M3.within a b = true := by simp only [M3.within, h.x.within, h.y.within, h.z.within, Bool.and_self]
theorem MSub.tr {a b : M3} (h : MSub a b) : MSub a.tr b.tr := ⟨⟨h.x.x, h.y.x, h.z.x⟩, ⟨h.x.y, h.y.y, h.z.y⟩, ⟨h.x.z, h.y.z, h.z.z⟩⟩
end Go.Sx
namespace Go.Sx
def R3.add (a b : R3) : R3 := ⟨a.x + b.x, a.y + b.y, a.z + b.z⟩
def R3.neg (a : R3) : R3 := ⟨-a.x, -a.y, -a.z⟩
def Z3.r (z : Z3) : R3 := ⟨z.x, z.y, z.z⟩
theorem VIn.neg {v : V3} {m : Int} {x : R3} (o : VOk v) (h : VIn v m x) : VIn (V3.neg v) m x.neg := ⟨neg_In o.x h.x, neg_In o.y h.y, neg_In o.z h.z⟩
theorem VOk.neg {v : V3} (o : VOk v) : VOk (V3.neg v) := ⟨neg_Ok o.x, neg_Ok o.y, neg_Ok o.z⟩
theorem add_VOk (a b : V3) : VOk (V3.add a b) := ⟨add_Ok _ _, add_Ok _ _, add_Ok _ _⟩
theorem VIn.add {a b : V3} {m B : Int} {x y : R3} (va : VOk a) (vb : VOk b) (hm : 0 ≤ m) (hx : VIn a m x) (hy : VIn b m y) (h : RB (B * m) (x.add y)) (hB : B ≤ 2147483648) : VIn (V3.add a b) m (x.add y) := by
  have hb := Int.mul_le_mul_of_nonneg_right hB hm
  have h1 := h.x
  have h2 := h.y
  have h3 := h.z
  simp only [R3.add] at h1 h2 h3
  exact ⟨add_In va.x vb.x hm hx.x hy.x (by omega) (by omega), add_In va.y vb.y hm hx.y hy.y (by omega) (by omega), add_In va.z vb.z hm hx.z hy.z (by omega) (by omega)⟩
theorem RB.add {a b : R3} {B C Z m : Int} (h : RB (B * m) a) (k : RB (C * m) b) (hD : B + C = Z) : RB (Z * m) (a.add b) := by
  subst hD
  rw [Int.add_mul]
  have h1 := h.x; have h2 := h.y; have h3 := h.z; have k1 := k.x; have k2 := k.y; have k3 := k.z
  exact ⟨by simp only [R3.add]; omega, by simp only [R3.add]; omega, by simp only [R3.add]; omega⟩
theorem RB.neg {a : R3} {B : Int} (h : RB B a) : RB B a.neg := by
  have h1 := h.x; have h2 := h.y; have h3 := h.z
  exact ⟨by simp only [R3.neg]; omega, by simp only [R3.neg]; omega, by simp only [R3.neg]; omega⟩
structure Rot (r : M3) (s T : Int) (X : RM) : Prop where
  pos : 0 < s
  ok : MOk r
  isin : MIn r s X
  o : Orth ((65536 * s) * (65536 * s)) T X
  o' : Orth ((65536 * s) * (65536 * s)) T X.tr
  c : ∀ a, R3.dot (X.tr.app a) (X.tr.app a) ≤ (65536 * s) * (65536 * s) * R3.dot a a
  c' : ∀ a, R3.dot (X.app a) (X.app a) ≤ (65536 * s) * (65536 * s) * R3.dot a a
  t0 : 0 ≤ T
  small : T * 1152921504606846976 ≤ (65536 * s) * (65536 * s)
theorem Rot.tr {r : M3} {s T : Int} {X : RM} (h : Rot r s T X) : Rot r.tr s T X.tr := ⟨h.pos, h.ok.tr, h.isin.tr, h.o', h.o, h.c', h.c, h.t0, h.small⟩
theorem Rot.rmb {r : M3} {s T : Int} {X : RM} (h : Rot r s T X) : RMB (65536 * s) X := h.o.rmb (by have := h.pos; omega)
theorem rot_dot {B C m k : Int} {x y : R3} (hx : RB (B * m) x) (hy : RB (C * k) y) : -(3 * (B * C) * (m * k)) ≤ R3.dot x y ∧ R3.dot x y ≤ 3 * (B * C) * (m * k) := by
  have p1 := abs_mul hx.x hy.x
  have p2 := abs_mul hx.y hy.y
  have p3 := abs_mul hx.z hy.z
  have e : 3 * (B * C) * (m * k) = B * m * (C * k) + B * m * (C * k) + B * m * (C * k) := by grind
  rw [e]
  unfold R3.dot
  omega
theorem Rot.app {r : M3} {s T : Int} {X : RM} (h : Rot r s T X) {v : V3} {k C : Int} {y : R3} (vo : VOk v) (hk : 0 ≤ k) (vi : VIn v k y) (vb : RB (C * k) y) (hC : 3 * (65536 * C) ≤ 140737488355328) :
    VIn (M3.apply r v) ((65536 * s) * k) (X.app y) ∧ RB ((3 * C) * ((65536 * s) * k)) (X.app y) := by
  have hs := h.pos
  have rb := h.rmb
  refine ⟨?_, ?_⟩
  · have := app_In h.ok vo (by omega) hk h.isin vi rb vb hC
    rwa [← Int.mul_assoc] at this
  · have d : ∀ {u : R3}, RB (65536 * s) u → -(3 * C * (65536 * s * k)) ≤ R3.dot u y ∧ R3.dot u y ≤ 3 * C * (65536 * s * k) := fun hu => by
      have := rot_dot hu vb
      have e : 3 * (65536 * C) * (s * k) = 3 * C * (65536 * s * k) := by grind
      rwa [e] at this
    exact ⟨d rb.x, d rb.y, d rb.z⟩
structure Nearly (S T : Int) (u : R3) (v : Z3) : Prop where
  x : v.x * S - T ≤ u.x ∧ u.x ≤ v.x * S + T
  y : v.y * S - T ≤ u.y ∧ u.y ≤ v.y * S + T
  z : v.z * S - T ≤ u.z ∧ u.z ≤ v.z * S + T
structure Lm (a : Iv) : Prop where
  ok : Ok a
  lo : -65536 ≤ a.lo
  hi : a.hi ≤ 65536
structure VLm (v : V3) : Prop where
  x : Lm v.x
  y : Lm v.y
  z : Lm v.z
structure MLm (v : M3) : Prop where
  x : VLm v.x
  y : VLm v.y
  z : VLm v.z
theorem MLm.ok {m : M3} (h : MLm m) : MOk m := ⟨⟨h.x.x.ok, h.x.y.ok, h.x.z.ok⟩, ⟨h.y.x.ok, h.y.y.ok, h.y.z.ok⟩, ⟨h.z.x.ok, h.z.y.ok, h.z.z.ok⟩⟩
theorem one_Lm : Lm iv1 := ⟨one_Ok, by decide, by decide⟩
theorem zero_Lm : Lm iv0 := ⟨zero_Ok, by decide, by decide⟩
theorem unit_MLm : MLm M3.unit := ⟨⟨one_Lm, zero_Lm, zero_Lm⟩, ⟨zero_Lm, one_Lm, zero_Lm⟩, ⟨zero_Lm, zero_Lm, one_Lm⟩⟩
theorem mul_one_r {a : Iv} (h : Ok a) : Iv.mul a iv1 = a ∧ Iv.mul iv1 a = a := by
  have v := valid_of h
  have v1 : Iv.valid ⟨65536, 65536⟩ = true := by decide
  unfold Ok at h
  have c1 := ceil_mul (k := a.hi) (b := 65536) (by decide)
  constructor
  · simp only [Iv.mul, v, v1, Bool.and_self, cond_true, iv1]
    rw [show min4 (a.lo * 65536) (a.lo * 65536) (a.hi * 65536) (a.hi * 65536) = a.lo * 65536 by unfold min4; omega, show max4 (a.lo * 65536) (a.lo * 65536) (a.hi * 65536) (a.hi * 65536) = 65536 * a.hi by unfold max4; omega, c1, Int.mul_ediv_cancel _ (by decide), clampI_id (by omega), clampI_id (by omega)]
  · simp only [Iv.mul, v, v1, Bool.and_self, cond_true, iv1]
    rw [show min4 (65536 * a.lo) (65536 * a.hi) (65536 * a.lo) (65536 * a.hi) = a.lo * 65536 by unfold min4; omega, show max4 (65536 * a.lo) (65536 * a.hi) (65536 * a.lo) (65536 * a.hi) = 65536 * a.hi by unfold max4; omega, c1, Int.mul_ediv_cancel _ (by decide), clampI_id (by omega), clampI_id (by omega)]
theorem mul_zero_r {a : Iv} (h : Ok a) : Iv.mul a iv0 = iv0 ∧ Iv.mul iv0 a = iv0 := by
  have v := valid_of h
  have v1 : Iv.valid ⟨0, 0⟩ = true := by decide
  constructor
  · simp only [Iv.mul, v, v1, Bool.and_self, cond_true, iv0, Int.mul_zero]; rfl
  · simp only [Iv.mul, v, v1, Bool.and_self, cond_true, iv0, Int.zero_mul]; rfl
theorem add_zero_r {a : Iv} (h : Ok a) : Iv.add a iv0 = a ∧ Iv.add iv0 a = a := by
  have v := valid_of h
  have v1 : Iv.valid ⟨0, 0⟩ = true := by decide
  unfold Ok at h
  constructor
  · simp only [Iv.add, v, v1, Bool.and_self, cond_true, iv0, Int.add_zero]; rw [clampI_id (by omega), clampI_id (by omega)]
  · simp only [Iv.add, v, v1, Bool.and_self, cond_true, iv0, Int.zero_add]; rw [clampI_id (by omega), clampI_id (by omega)]
theorem lim_id {a : Iv} (h : Lm a) : limV a = a := by
  have h1 := h.lo; have h2 := h.hi; have h3 := h.ok
  unfold Ok at h3
  unfold limV limI
  have e1 : min (max a.lo (-65536)) 65536 = a.lo := by omega
  have e2 : min (max a.hi (-65536)) 65536 = a.hi := by omega
  rw [e1, e2]
theorem unit_mul {m : M3} (h : MLm m) : M3.mul M3.unit m = m := by
  obtain ⟨⟨⟨_, _⟩, ⟨_, _⟩, ⟨_, _⟩⟩, ⟨⟨_, _⟩, ⟨_, _⟩, ⟨_, _⟩⟩, ⟨⟨_, _⟩, ⟨_, _⟩, ⟨_, _⟩⟩⟩ := m
  simp only [M3.mul, M3.row, V3.dot, M3.tr, M3.unit, (mul_one_r h.x.x.ok).2, (mul_one_r h.x.y.ok).2, (mul_one_r h.x.z.ok).2, (mul_one_r h.y.x.ok).2, (mul_one_r h.y.y.ok).2, (mul_one_r h.y.z.ok).2, (mul_one_r h.z.x.ok).2, (mul_one_r h.z.y.ok).2, (mul_one_r h.z.z.ok).2,
    (mul_zero_r h.x.x.ok).2, (mul_zero_r h.x.y.ok).2, (mul_zero_r h.x.z.ok).2, (mul_zero_r h.y.x.ok).2, (mul_zero_r h.y.y.ok).2, (mul_zero_r h.y.z.ok).2, (mul_zero_r h.z.x.ok).2, (mul_zero_r h.z.y.ok).2, (mul_zero_r h.z.z.ok).2,
    (add_zero_r h.x.x.ok).1, (add_zero_r h.x.y.ok).1, (add_zero_r h.x.z.ok).1, (add_zero_r h.y.x.ok).1, (add_zero_r h.y.y.ok).1, (add_zero_r h.y.z.ok).1, (add_zero_r h.z.x.ok).1, (add_zero_r h.z.y.ok).1, (add_zero_r h.z.z.ok).1,
    (add_zero_r h.x.x.ok).2, (add_zero_r h.x.y.ok).2, (add_zero_r h.x.z.ok).2, (add_zero_r h.y.x.ok).2, (add_zero_r h.y.y.ok).2, (add_zero_r h.y.z.ok).2, (add_zero_r h.z.x.ok).2, (add_zero_r h.z.y.ok).2, (add_zero_r h.z.z.ok).2, (add_zero_r zero_Ok).1,
    lim_id h.x.x, lim_id h.x.y, lim_id h.x.z, lim_id h.y.x, lim_id h.y.y, lim_id h.y.z, lim_id h.z.x, lim_id h.z.y, lim_id h.z.z]
theorem unit_apply {v : V3} (h : VOk v) : M3.apply M3.unit v = v := by
  obtain ⟨⟨_, _⟩, ⟨_, _⟩, ⟨_, _⟩⟩ := v
  simp only [M3.apply, V3.dot, M3.unit, (mul_one_r h.x).2, (mul_one_r h.y).2, (mul_one_r h.z).2, (mul_zero_r h.x).2, (mul_zero_r h.y).2, (mul_zero_r h.z).2, (add_zero_r h.x).1, (add_zero_r h.y).1, (add_zero_r h.z).1, (add_zero_r h.x).2, (add_zero_r h.y).2, (add_zero_r h.z).2, (add_zero_r zero_Ok).1]
theorem add_Vzero {v : V3} (h : VOk v) : V3.add v V3.zero = v ∧ V3.add V3.zero v = v := by
  obtain ⟨⟨_, _⟩, ⟨_, _⟩, ⟨_, _⟩⟩ := v
  exact ⟨by simp only [V3.add, V3.zero, (add_zero_r h.x).1, (add_zero_r h.y).1, (add_zero_r h.z).1], by simp only [V3.add, V3.zero, (add_zero_r h.x).2, (add_zero_r h.y).2, (add_zero_r h.z).2]⟩
structure PLm (p : Po) : Prop where
  r : MLm p.r
  t : VOk p.t
theorem shift_shift {x y : V3} (hy : VOk y) : Po.mul (Po.shift x) (Po.shift y) = Po.shift (V3.add x y) := by
  simp only [Po.mul, Po.shift, Po.app, unit_mul unit_MLm, unit_apply hy]
end Go.Sx
namespace Go.Sx
theorem of_zero3 : V3.of ⟨0, 0, 0⟩ = V3.zero := by rfl
theorem shift0 {v : V3} (h : VOk v) : Po.mul (Po.shift (V3.of ⟨0, 0, 0⟩)) (Po.shift v) = Po.shift v := by
  rw [shift_shift h, of_zero3, (add_Vzero h).2]
theorem zero_VOk : VOk V3.zero := ⟨zero_Ok, zero_Ok, zero_Ok⟩
theorem sl_app {a b c d : Int} (h1 : Ok ⟨a, b⟩) (h2 : Ok ⟨c, d⟩) : Po.app (Po.mul (jPose 4 (Z3.mk 0 0 0) (Iv.mk a b)) (jPose 5 (Z3.mk 0 0 0) (Iv.mk c d))) (V3.of (Z3.mk 0 0 0)) = ⟨⟨a, b⟩, ⟨c, d⟩, iv0⟩ := by
  have v1 : VOk (V3.put 0 ⟨a, b⟩) := ⟨h1, zero_Ok, zero_Ok⟩
  have v2 : VOk (V3.put 1 ⟨c, d⟩) := ⟨zero_Ok, h2, zero_Ok⟩
  have e1 : jPose 4 (Z3.mk 0 0 0) (Iv.mk a b) = Po.shift (V3.put 0 ⟨a, b⟩) := by
    unfold jPose
    rw [jMot_s (.inl rfl)]
    exact shift0 v1
  have e2 : jPose 5 (Z3.mk 0 0 0) (Iv.mk c d) = Po.shift (V3.put 1 ⟨c, d⟩) := by
    unfold jPose
    rw [jMot_s (.inr (.inl rfl))]
    exact shift0 v2
  rw [e1, e2, shift_shift v2, of_zero3]
  show V3.add (V3.add (V3.put 0 ⟨a, b⟩) (V3.put 1 ⟨c, d⟩)) (M3.apply M3.unit V3.zero) = _
  rw [unit_apply zero_VOk, (add_Vzero (add_VOk _ _)).1]
  show V3.mk (Iv.add ⟨a, b⟩ iv0) (Iv.add iv0 ⟨c, d⟩) (Iv.add iv0 iv0) = _
  rw [(add_zero_r h1).1, (add_zero_r h2).2, (add_zero_r zero_Ok).1]
theorem of_in {x : Int} (h : 0 ≤ x ∧ x ≤ 4000) : Iv.of x = ⟨x, x⟩ := of_id (by omega)
end Go.Sx

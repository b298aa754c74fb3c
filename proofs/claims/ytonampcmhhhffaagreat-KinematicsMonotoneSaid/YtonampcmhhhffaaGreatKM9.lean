/- Part 9 of the texts behind the last one: rules and contracts. No condition. -/
import Derived.Test.YtonampcmhhhffaaGreatKM8
namespace Go.Proofs.YtonampcmhhhffaaGreat
open Go.Sx
theorem en112 : Enters Tryz.prog 112 := enters_of Tryz.func112 (by kernel_rfl) (by kernel_rfl)
theorem en30 : Enters Tryz.prog 30 := enters_of Tryz.func30 (by kernel_rfl) (by kernel_rfl)
theorem ze114 : zeroIs Tryz.prog 114 (.agg #[.nilFunc]) := by unfold zeroIs; kernel_rfl
theorem la114 : layoutOf Tryz.prog 114 = some ([.nilFunc], [(0, 1)]) := by kernel_rfl
theorem ty114 : tyB Tryz.prog 114 true 1 = true := by kernel_rfl
theorem en64 : Enters Tryz.prog 64 := enters_of Tryz.func64 (by kernel_rfl) (by kernel_rfl)
theorem fl114_0 : fldB Tryz.prog 114 0 0 = true := by kernel_rfl
theorem en54 : Enters Tryz.prog 54 := enters_of Tryz.func54 (by kernel_rfl) (by kernel_rfl)
theorem kTurn (k : Int) (a0 a1 : Int) (w : World) : Calls Tryz.prog 85 [.int .i64 k, .agg #[.int .i64 a0, .int .i64 a1]].toArray w (Rets (po (Po.turn k (⟨a0, a1⟩ : Iv))) (w)) := by
  refine calls_of_doC (n := 8) Tryz.func85 rfl rfl rfl ?_
  refine doC_seq ?_
  refine doC_region ?_
  refine doL_box 3 rfl rfl rfl rfl ?_; intro b3
  refine doL_alloc 4 ze66 rfl rfl rfl ?_; intro b4
  refine doL_nil ?_
  refine post_then ?_
  refine doC_seq ?_
  refine doC_region ?_
  refine doL_v (opV_move rfl) rfl rfl rfl ?_
  refine doL_v (opV_loadA 3 ty44 rfl rfl rfl) rfl rfl rfl ?_
  refine doL_vg (F := po) (opV_call en112 rfl (fun w _ => pTurn _ _ _  w)) rfl rfl rfl ?_; intro r7 hr7
  refine doL_store 4 ty66 rfl rfl rfl rfl rfl rfl rfl rfl ?_
  refine doL_nil ?_
  refine post_then ?_
  refine doC_ret ?_
  refine post_rets (rs := [.cell 4 66]) rfl (resC (resIs_cell 4 rfl rfl ty66 rfl) (resN)) (congrArg (po) (?_ : ⟨⟨⟨⟨_, _⟩, ⟨_, _⟩, ⟨_, _⟩⟩, ⟨⟨_, _⟩, ⟨_, _⟩, ⟨_, _⟩⟩, ⟨⟨_, _⟩, ⟨_, _⟩, ⟨_, _⟩⟩⟩, ⟨⟨_, _⟩, ⟨_, _⟩, ⟨_, _⟩⟩⟩ = Po.turn k (⟨a0, a1⟩ : Iv)))
  subst_vars; rfl
theorem kSlide (k : Int) (a0 a1 : Int) (hk : 0 ≤ k ∧ k ≤ 2) (w : World) : Calls Tryz.prog 86 [.int .i64 k, .agg #[.int .i64 a0, .int .i64 a1]].toArray w (Rets (po (Po.shift (V3.put k (⟨a0, a1⟩ : Iv)))) (w)) := by
  refine calls_of_doC (n := 11) Tryz.func86 rfl rfl rfl ?_
  refine doC_seq ?_
  refine doC_region ?_
  refine doL_box 3 rfl rfl rfl rfl ?_; intro b3
  refine doL_alloc 4 ze66 rfl rfl rfl ?_; intro b4
  refine doL_nil ?_
  refine post_then ?_
  refine doC_seq ?_
  refine doC_region ?_
  refine doL_alloc 5 ze46 rfl rfl rfl ?_; intro b5
  refine doL_nil ?_
  refine post_then ?_
  refine doC_seq ?_
  rcases (show k = 0 ∨ k = 1 ∨ k = 2 by omega) with rfl | rfl | rfl
  ·
    refine doC_region ?_
    refine doL_v (opV_move rfl) rfl rfl rfl ?_
    refine doL_v (opV_loadA 3 ty44 rfl rfl rfl) rfl rfl rfl ?_
    refine doL_v (opV_indexAddr ar46 rfl rfl (by first | decide | omega) (by first | decide | omega)) rfl rfl rfl ?_
    refine doL_store 5 ty44 rfl rfl rfl rfl rfl rfl rfl rfl ?_
    refine doL_nil ?_
    refine post_then ?_
    refine doC_seq ?_
    refine doC_region ?_
    refine doL_v (opV_loadA 5 ty46 rfl rfl rfl) rfl rfl rfl ?_
    refine doL_vg (F := po) (opV_call en55 rfl (fun w _ => pShift _ _ _ _ _ _  w)) rfl rfl rfl ?_; intro r10 hr10
    refine doL_store 4 ty66 rfl rfl rfl rfl rfl rfl rfl rfl ?_
    refine doL_nil ?_
    refine post_then ?_
    refine doC_ret ?_
    refine post_rets (rs := [.cell 4 66]) rfl (resC (resIs_cell 4 rfl rfl ty66 rfl) (resN)) (congrArg (po) (?_ : ⟨⟨⟨⟨_, _⟩, ⟨_, _⟩, ⟨_, _⟩⟩, ⟨⟨_, _⟩, ⟨_, _⟩, ⟨_, _⟩⟩, ⟨⟨_, _⟩, ⟨_, _⟩, ⟨_, _⟩⟩⟩, ⟨⟨_, _⟩, ⟨_, _⟩, ⟨_, _⟩⟩⟩ = Po.shift (V3.put 0 (⟨a0, a1⟩ : Iv))))
    subst_vars; rfl
  ·
    refine doC_region ?_
    refine doL_v (opV_move rfl) rfl rfl rfl ?_
    refine doL_v (opV_loadA 3 ty44 rfl rfl rfl) rfl rfl rfl ?_
    refine doL_v (opV_indexAddr ar46 rfl rfl (by first | decide | omega) (by first | decide | omega)) rfl rfl rfl ?_
    refine doL_store 5 ty44 rfl rfl rfl rfl rfl rfl rfl rfl ?_
    refine doL_nil ?_
    refine post_then ?_
    refine doC_seq ?_
    refine doC_region ?_
    refine doL_v (opV_loadA 5 ty46 rfl rfl rfl) rfl rfl rfl ?_
    refine doL_vg (F := po) (opV_call en55 rfl (fun w _ => pShift _ _ _ _ _ _  w)) rfl rfl rfl ?_; intro r10 hr10
    refine doL_store 4 ty66 rfl rfl rfl rfl rfl rfl rfl rfl ?_
    refine doL_nil ?_
    refine post_then ?_
    refine doC_ret ?_
    refine post_rets (rs := [.cell 4 66]) rfl (resC (resIs_cell 4 rfl rfl ty66 rfl) (resN)) (congrArg (po) (?_ : ⟨⟨⟨⟨_, _⟩, ⟨_, _⟩, ⟨_, _⟩⟩, ⟨⟨_, _⟩, ⟨_, _⟩, ⟨_, _⟩⟩, ⟨⟨_, _⟩, ⟨_, _⟩, ⟨_, _⟩⟩⟩, ⟨⟨_, _⟩, ⟨_, _⟩, ⟨_, _⟩⟩⟩ = Po.shift (V3.put 1 (⟨a0, a1⟩ : Iv))))
    subst_vars; rfl
  ·
    refine doC_region ?_
    refine doL_v (opV_move rfl) rfl rfl rfl ?_
    refine doL_v (opV_loadA 3 ty44 rfl rfl rfl) rfl rfl rfl ?_
    refine doL_v (opV_indexAddr ar46 rfl rfl (by first | decide | omega) (by first | decide | omega)) rfl rfl rfl ?_
    refine doL_store 5 ty44 rfl rfl rfl rfl rfl rfl rfl rfl ?_
    refine doL_nil ?_
    refine post_then ?_
    refine doC_seq ?_
    refine doC_region ?_
    refine doL_v (opV_loadA 5 ty46 rfl rfl rfl) rfl rfl rfl ?_
    refine doL_vg (F := po) (opV_call en55 rfl (fun w _ => pShift _ _ _ _ _ _  w)) rfl rfl rfl ?_; intro r10 hr10
    refine doL_store 4 ty66 rfl rfl rfl rfl rfl rfl rfl rfl ?_
    refine doL_nil ?_
    refine post_then ?_
    refine doC_ret ?_
    refine post_rets (rs := [.cell 4 66]) rfl (resC (resIs_cell 4 rfl rfl ty66 rfl) (resN)) (congrArg (po) (?_ : ⟨⟨⟨⟨_, _⟩, ⟨_, _⟩, ⟨_, _⟩⟩, ⟨⟨_, _⟩, ⟨_, _⟩, ⟨_, _⟩⟩, ⟨⟨_, _⟩, ⟨_, _⟩, ⟨_, _⟩⟩⟩, ⟨⟨_, _⟩, ⟨_, _⟩, ⟨_, _⟩⟩⟩ = Po.shift (V3.put 2 (⟨a0, a1⟩ : Iv))))
    subst_vars; rfl
theorem kRest (k : Int) (a0 a1 : Int) (w : World) : Calls Tryz.prog 87 [.int .i64 k, .agg #[.int .i64 a0, .int .i64 a1]].toArray w (Rets (po (Po.rest)) (w)) := by
  refine calls_of_doC (n := 6) Tryz.func87 rfl rfl rfl ?_
  refine doC_seq ?_
  refine doC_region ?_
  refine doL_box 3 rfl rfl rfl rfl ?_; intro b3
  refine doL_alloc 4 ze66 rfl rfl rfl ?_; intro b4
  refine doL_nil ?_
  refine post_then ?_
  refine doC_seq ?_
  refine doC_region ?_
  refine doL_vg (F := po) (opV_call en30 rfl (fun w _ => pIdentity   w)) rfl rfl rfl ?_; intro r5 hr5
  refine doL_store 4 ty66 rfl rfl rfl rfl rfl rfl rfl rfl ?_
  refine doL_nil ?_
  refine post_then ?_
  refine doC_ret ?_
  refine post_rets (rs := [.cell 4 66]) rfl (resC (resIs_cell 4 rfl rfl ty66 rfl) (resN)) (congrArg (po) (?_ : ⟨⟨⟨⟨_, _⟩, ⟨_, _⟩, ⟨_, _⟩⟩, ⟨⟨_, _⟩, ⟨_, _⟩, ⟨_, _⟩⟩, ⟨⟨_, _⟩, ⟨_, _⟩, ⟨_, _⟩⟩⟩, ⟨⟨_, _⟩, ⟨_, _⟩, ⟨_, _⟩⟩⟩ = Po.rest))
  subst_vars; rfl
theorem kMotion (k : Int) (w : World) : Calls Tryz.prog 64 [.int .i64 k].toArray w (Rets (motV 85 86 87 k) w) := by
  refine calls_of_doC (n := 22) Tryz.func64 rfl rfl rfl ?_
  refine doC_seq ?_
  refine doC_region ?_
  refine doL_alloc 2 ze114 rfl rfl rfl ?_; intro b2
  refine doL_nil ?_
  refine post_then ?_
  refine doC_seq ?_
  refine doC_seq ?_
  refine doC_region ?_
  refine doL_v (opV_move rfl) rfl rfl rfl ?_
  refine doL_nil ?_
  refine post_then ?_
  refine doC_block ?_
  refine doC_seq ?_
  refine doC_seq ?_
  refine doC_region ?_
  refine doL_v (opV_eql rfl rfl) rfl rfl rfl ?_
  refine doL_v (opV_assign rfl) rfl rfl rfl ?_
  refine doL_nil ?_
  refine post_then ?_
  refine doC_cond rfl (fun hc4 => ?_) (fun hc4 => ?_)
  ·
    have e := of_decide_eq_true hc4
    refine doC_skip ?_
    refine post_then ?_
    refine doC_cond_t rfl (hc4) ?_
    refine doC_seq ?_
    refine doC_region ?_
    refine doL_v (opV_move rfl) rfl rfl rfl ?_
    refine doL_v (opV_sub rfl rfl (by first | exact i64_in ⟨by omega, by omega⟩ | rfl)) rfl rfl rfl ?_
    refine doL_v (opV_makeFunc rfl rfl) rfl rfl rfl ?_
    refine doL_v (opV_build la114 rfl rfl) rfl rfl rfl ?_
    refine doL_store 2 ty114 rfl rfl rfl rfl rfl rfl rfl rfl ?_
    refine doL_nil ?_
    refine post_then ?_
    refine doC_ret ?_
    refine post_block_ret ?_
    refine post_then_ret ?_
    refine post_ret (rs := [.cell 2 114]) rfl (resC (resIs_cell 2 rfl rfl ty114 rfl) (resN)) rfl ?_
    intro w2 kn
    exact ⟨congrArg Ending.returned (by first | exact (mot_t (by omega)).symm | exact (mot_s (by omega)).symm | exact (mot_r (by omega) (by omega)).symm), kn.grow⟩
  ·
    have e := of_decide_eq_false hc4
    refine doC_seq ?_
    refine doC_region ?_
    refine doL_v (opV_eql rfl rfl) rfl rfl rfl ?_
    refine doL_v (opV_assign rfl) rfl rfl rfl ?_
    refine doL_nil ?_
    refine post_then ?_
    refine doC_cond rfl (fun hc4_2 => ?_) (fun hc4_2 => ?_)
    ·
      have e := of_decide_eq_true hc4_2
      refine doC_skip ?_
      refine post_then ?_
      refine doC_cond_t rfl (hc4_2) ?_
      refine doC_seq ?_
      refine doC_region ?_
      refine doL_v (opV_move rfl) rfl rfl rfl ?_
      refine doL_v (opV_sub rfl rfl (by first | exact i64_in ⟨by omega, by omega⟩ | rfl)) rfl rfl rfl ?_
      refine doL_v (opV_makeFunc rfl rfl) rfl rfl rfl ?_
      refine doL_v (opV_build la114 rfl rfl) rfl rfl rfl ?_
      refine doL_store 2 ty114 rfl rfl rfl rfl rfl rfl rfl rfl ?_
      refine doL_nil ?_
      refine post_then ?_
      refine doC_ret ?_
      refine post_block_ret ?_
      refine post_then_ret ?_
      refine post_ret (rs := [.cell 2 114]) rfl (resC (resIs_cell 2 rfl rfl ty114 rfl) (resN)) rfl ?_
      intro w2 kn
      exact ⟨congrArg Ending.returned (by first | exact (mot_t (by omega)).symm | exact (mot_s (by omega)).symm | exact (mot_r (by omega) (by omega)).symm), kn.grow⟩
    ·
      have e := of_decide_eq_false hc4_2
      refine doC_region ?_
      refine doL_v (opV_eql rfl rfl) rfl rfl rfl ?_
      refine doL_v (opV_assign rfl) rfl rfl rfl ?_
      refine doL_nil ?_
      refine post_then ?_
      refine doC_cond rfl (fun hc4_3 => ?_) (fun hc4_3 => ?_)
      ·
        have e := of_decide_eq_true hc4_3
        refine doC_seq ?_
        refine doC_region ?_
        refine doL_v (opV_move rfl) rfl rfl rfl ?_
        refine doL_v (opV_sub rfl rfl (by first | exact i64_in ⟨by omega, by omega⟩ | rfl)) rfl rfl rfl ?_
        refine doL_v (opV_makeFunc rfl rfl) rfl rfl rfl ?_
        refine doL_v (opV_build la114 rfl rfl) rfl rfl rfl ?_
        refine doL_store 2 ty114 rfl rfl rfl rfl rfl rfl rfl rfl ?_
        refine doL_nil ?_
        refine post_then ?_
        refine doC_ret ?_
        refine post_block_ret ?_
        refine post_then_ret ?_
        refine post_ret (rs := [.cell 2 114]) rfl (resC (resIs_cell 2 rfl rfl ty114 rfl) (resN)) rfl ?_
        intro w2 kn
        exact ⟨congrArg Ending.returned (by first | exact (mot_t (by omega)).symm | exact (mot_s (by omega)).symm | exact (mot_r (by omega) (by omega)).symm), kn.grow⟩
      ·
        have e := of_decide_eq_false hc4_3
        refine doC_seq ?_
        refine doC_seq ?_
        refine doC_region ?_
        refine doL_v (opV_eql rfl rfl) rfl rfl rfl ?_
        refine doL_v (opV_assign rfl) rfl rfl rfl ?_
        refine doL_nil ?_
        refine post_then ?_
        refine doC_cond rfl (fun hc12 => ?_) (fun hc12 => ?_)
        ·
          have e := of_decide_eq_true hc12
          refine doC_skip ?_
          refine post_then ?_
          refine doC_cond_t rfl (hc12) ?_
          refine doC_seq ?_
          refine doC_region ?_
          refine doL_v (opV_move rfl) rfl rfl rfl ?_
          refine doL_v (opV_sub rfl rfl (by first | exact i64_in ⟨by omega, by omega⟩ | rfl)) rfl rfl rfl ?_
          refine doL_v (opV_makeFunc rfl rfl) rfl rfl rfl ?_
          refine doL_v (opV_build la114 rfl rfl) rfl rfl rfl ?_
          refine doL_store 2 ty114 rfl rfl rfl rfl rfl rfl rfl rfl ?_
          refine doL_nil ?_
          refine post_then ?_
          refine doC_ret ?_
          refine post_block_ret ?_
          refine post_then_ret ?_
          refine post_ret (rs := [.cell 2 114]) rfl (resC (resIs_cell 2 rfl rfl ty114 rfl) (resN)) rfl ?_
          intro w2 kn
          exact ⟨congrArg Ending.returned (by first | exact (mot_t (by omega)).symm | exact (mot_s (by omega)).symm | exact (mot_r (by omega) (by omega)).symm), kn.grow⟩
        ·
          have e := of_decide_eq_false hc12
          refine doC_seq ?_
          refine doC_region ?_
          refine doL_v (opV_eql rfl rfl) rfl rfl rfl ?_
          refine doL_v (opV_assign rfl) rfl rfl rfl ?_
          refine doL_nil ?_
          refine post_then ?_
          refine doC_cond rfl (fun hc12_2 => ?_) (fun hc12_2 => ?_)
          ·
            have e := of_decide_eq_true hc12_2
            refine doC_skip ?_
            refine post_then ?_
            refine doC_cond_t rfl (hc12_2) ?_
            refine doC_seq ?_
            refine doC_region ?_
            refine doL_v (opV_move rfl) rfl rfl rfl ?_
            refine doL_v (opV_sub rfl rfl (by first | exact i64_in ⟨by omega, by omega⟩ | rfl)) rfl rfl rfl ?_
            refine doL_v (opV_makeFunc rfl rfl) rfl rfl rfl ?_
            refine doL_v (opV_build la114 rfl rfl) rfl rfl rfl ?_
            refine doL_store 2 ty114 rfl rfl rfl rfl rfl rfl rfl rfl ?_
            refine doL_nil ?_
            refine post_then ?_
            refine doC_ret ?_
            refine post_block_ret ?_
            refine post_then_ret ?_
            refine post_ret (rs := [.cell 2 114]) rfl (resC (resIs_cell 2 rfl rfl ty114 rfl) (resN)) rfl ?_
            intro w2 kn
            exact ⟨congrArg Ending.returned (by first | exact (mot_t (by omega)).symm | exact (mot_s (by omega)).symm | exact (mot_r (by omega) (by omega)).symm), kn.grow⟩
          ·
            have e := of_decide_eq_false hc12_2
            refine doC_region ?_
            refine doL_v (opV_eql rfl rfl) rfl rfl rfl ?_
            refine doL_v (opV_assign rfl) rfl rfl rfl ?_
            refine doL_nil ?_
            refine post_then ?_
            refine doC_cond rfl (fun hc12_3 => ?_) (fun hc12_3 => ?_)
            ·
              have e := of_decide_eq_true hc12_3
              refine doC_seq ?_
              refine doC_region ?_
              refine doL_v (opV_move rfl) rfl rfl rfl ?_
              refine doL_v (opV_sub rfl rfl (by first | exact i64_in ⟨by omega, by omega⟩ | rfl)) rfl rfl rfl ?_
              refine doL_v (opV_makeFunc rfl rfl) rfl rfl rfl ?_
              refine doL_v (opV_build la114 rfl rfl) rfl rfl rfl ?_
              refine doL_store 2 ty114 rfl rfl rfl rfl rfl rfl rfl rfl ?_
              refine doL_nil ?_
              refine post_then ?_
              refine doC_ret ?_
              refine post_block_ret ?_
              refine post_then_ret ?_
              refine post_ret (rs := [.cell 2 114]) rfl (resC (resIs_cell 2 rfl rfl ty114 rfl) (resN)) rfl ?_
              intro w2 kn
              exact ⟨congrArg Ending.returned (by first | exact (mot_t (by omega)).symm | exact (mot_s (by omega)).symm | exact (mot_r (by omega) (by omega)).symm), kn.grow⟩
            ·
              have e := of_decide_eq_false hc12_3
              refine doC_skip ?_
              refine post_block_normal ?_
              refine post_then ?_
              refine doC_seq ?_
              refine doC_region ?_
              refine doL_v (opV_makeFunc rfl rfl) rfl rfl rfl ?_
              refine doL_v (opV_build la114 rfl rfl) rfl rfl rfl ?_
              refine doL_store 2 ty114 rfl rfl rfl rfl rfl rfl rfl rfl ?_
              refine doL_nil ?_
              refine post_then ?_
              refine doC_ret ?_
              refine post_ret (rs := [.cell 2 114]) rfl (resC (resIs_cell 2 rfl rfl ty114 rfl) (resN)) rfl ?_
              intro w2 kn
              exact ⟨congrArg Ending.returned (by first | exact (mot_t (by omega)).symm | exact (mot_s (by omega)).symm | exact (mot_r (by omega) (by omega)).symm), kn.grow⟩
theorem en_t : Enters Tryz.prog 85 := enters_of Tryz.func85 (by kernel_rfl) (by kernel_rfl)
theorem en_s : Enters Tryz.prog 86 := enters_of Tryz.func86 (by kernel_rfl) (by kernel_rfl)
theorem en_r : Enters Tryz.prog 87 := enters_of Tryz.func87 (by kernel_rfl) (by kernel_rfl)
theorem en_mot (k : Int) : Enters Tryz.prog (if k = 1 ∨ k = 2 ∨ k = 3 then 85 else if k = 4 ∨ k = 5 ∨ k = 6 then 86 else 87) := by
  by_cases h : k = 1 ∨ k = 2 ∨ k = 3
  · rw [if_pos h]; exact en_t
  · by_cases h2 : k = 4 ∨ k = 5 ∨ k = 6
    · rw [if_neg h, if_pos h2]; exact en_s
    · rw [if_neg h, if_neg h2]; exact en_r
theorem kMove (k a0 a1 : Int) (w : World) : Calls Tryz.prog (if k = 1 ∨ k = 2 ∨ k = 3 then 85 else if k = 4 ∨ k = 5 ∨ k = 6 then 86 else 87) [.int .i64 (if k = 1 ∨ k = 2 ∨ k = 3 then k - 1 else if k = 4 ∨ k = 5 ∨ k = 6 then k - 4 else 0), .agg #[.int .i64 a0, .int .i64 a1]].toArray w (Rets (po (jMot k ⟨a0, a1⟩)) w) := by
  by_cases h : k = 1 ∨ k = 2 ∨ k = 3
  · rw [if_pos h, if_pos h, jMot_t h]; exact kTurn _ _ _ w
  · by_cases h2 : k = 4 ∨ k = 5 ∨ k = 6
    · rw [if_neg h, if_pos h2, if_neg h, if_pos h2, jMot_s h2]; exact kSlide _ _ _ (by omega) w
    · rw [if_neg h, if_neg h2, if_neg h, if_neg h2, jMot_r h h2]; exact kRest _ _ _ w
theorem kJoint (a0 a1 : Int) (nm : ByteArray) (kind par ox oy oz jlo jhi we spd acc tq : Int) (w : World) : Calls Tryz.prog 38 [.agg #[.string nm, .int .i64 kind, .int .i64 par, .int .i64 ox, .int .i64 oy, .int .i64 oz, .int .i64 jlo, .int .i64 jhi, .int .i64 we, .int .i64 spd, .int .i64 acc, .int .i64 tq], .agg #[.int .i64 a0, .int .i64 a1]].toArray w (Rets (po (jPose kind ⟨ox, oy, oz⟩ (⟨a0, a1⟩ : Iv))) (w)) := by
  refine calls_of_doC (n := 16) Tryz.func38 rfl rfl rfl ?_
  refine doC_seq ?_
  refine doC_region ?_
  refine doL_box 2 rfl rfl rfl rfl ?_; intro b2
  refine doL_box 3 rfl rfl rfl rfl ?_; intro b3
  refine doL_alloc 4 ze66 rfl rfl rfl ?_; intro b4
  refine doL_nil ?_
  refine post_then ?_
  refine doC_seq ?_
  refine doC_drawn 11 mo (by kernel_rfl) ?_
  simp only [List.take_succ_cons, List.take_zero, List.drop_succ_cons, List.drop_zero]
  refine doG_v (opV_fieldAddr fa84_3 rfl) rfl rfl rfl ?_
  refine doG_v (opV_loadA 2 ty50 rfl rfl rfl) rfl rfl rfl ?_
  refine doG_vg (F := v3) (opV_call en59 rfl (fun w _ => mPoint _ _ _  w)) rfl rfl rfl ?_; intro r7 hr7
  refine doG_vg (F := po) (opV_call en55 rfl (fun w _ => pShift _ _ _ _ _ _  w)) rfl rfl rfl ?_; intro r8 hr8
  refine doG_v (opV_fieldAddr fa84_1 rfl) rfl rfl rfl ?_
  refine doG_v (opV_load1 2 ty3 rfl rfl rfl) rfl rfl rfl ?_
  refine doG_vg (F := motV 85 86 87) (opV_call en64 rfl (fun w _ => kMotion _  w)) rfl rfl rfl ?_; intro r11 hr11
  refine doG_v (opV_field1 fl114_0 rfl rfl) rfl rfl rfl ?_
  refine doG_v (opV_loadA 3 ty44 rfl rfl rfl) rfl rfl rfl ?_
  refine doG_vg (F := po) (opV_callV (en_mot _) rfl rfl rfl (fun w _ => kMove _ _ _ w)) rfl rfl rfl ?_; intro r14 hr14
  refine doG_vg (F := po) (opV_call en54 rfl (fun w _ => pCompose _ _ _ _ _ _ _ _ _ _ _ _ _ _ _ _ _ _ _ _ _ _ _ _ _ _ _ _ _ _ _ _ _ _ _ _ _ _ _ _ _ _ _ _ _ _ _ _  w)) rfl rfl rfl ?_; intro r15 hr15
  refine doG_nil ?_
  refine tail_nil ?_
  refine doL_store 4 ty66 rfl rfl rfl rfl rfl rfl rfl rfl ?_
  refine doL_nil ?_
  refine post_then ?_
  refine doC_ret ?_
  refine post_rets (rs := [.cell 4 66]) rfl (resC (resIs_cell 4 rfl rfl ty66 rfl) (resN)) (congrArg (po) (?_ : ⟨⟨⟨⟨_, _⟩, ⟨_, _⟩, ⟨_, _⟩⟩, ⟨⟨_, _⟩, ⟨_, _⟩, ⟨_, _⟩⟩, ⟨⟨_, _⟩, ⟨_, _⟩, ⟨_, _⟩⟩⟩, ⟨⟨_, _⟩, ⟨_, _⟩, ⟨_, _⟩⟩⟩ = jPose kind ⟨ox, oy, oz⟩ (⟨a0, a1⟩ : Iv)))
  have e8 : r8 = Po.shift r7 := hr8
  have e15 : r15 = Po.mul r8 r14 := hr15
  show r15 = _
  rw [e15, e8, hr7, hr14, hr11]
  rfl
end Go.Proofs.YtonampcmhhhffaaGreat
namespace Go.Proofs.YtonampcmhhhffaaGreat
open Go.Sx
theorem en12 : Enters Tryz.prog 12 := enters_of Tryz.func12 (by kernel_rfl) (by kernel_rfl)
theorem en38 : Enters Tryz.prog 38 := enters_of Tryz.func38 (by kernel_rfl) (by kernel_rfl)
theorem en39 : Enters Tryz.prog 39 := enters_of Tryz.func39 (by kernel_rfl) (by kernel_rfl)
theorem ag46 : aggB Tryz.prog 46 = true := by kernel_rfl
theorem ce46 (a0 a1 a2 a3 a4 a5 : Int) : cellsB Tryz.prog 4 46 [.int .i64 a0, .int .i64 a1, .int .i64 a2, .int .i64 a3, .int .i64 a4, .int .i64 a5] = true := by kernel_rfl
theorem k4 {k : Int} (h : k = 4) : IntKind.i64.wrap (k - 4) = 0 := by rw [h]; rfl
theorem k5 {k : Int} (h : k = 5) : IntKind.i64.wrap (k - 4) = 1 := by rw [h]; rfl
theorem k6 {k : Int} (h : k = 6) : IntKind.i64.wrap (k - 4) = 2 := by rw [h]; rfl
theorem awake11_val : Po.app (jPose 3 ⟨9, 0, 0⟩ (Iv.of 16384)) (V3.of ⟨5, 0, 0⟩) = V3.of ⟨9, 5, 0⟩ := by kernel_rfl
theorem awake11  (w : World) : Calls Tryz.prog 15 [].toArray w (Rets (vB (true)) (w)) := by
  refine calls_of_doC (n := 13) Tryz.func15 rfl rfl rfl ?_
  refine doC_seq ?_
  refine doC_region ?_
  refine doL_v (opV_assign rfl) rfl rfl rfl ?_
  refine doL_nil ?_
  refine post_then ?_
  refine doC_seq ?_
  refine doC_region ?_
  refine doL_v (opV_build la50 rfl rfl) rfl rfl rfl ?_
  refine doL_v (opV_build la84 rfl rfl) rfl rfl rfl ?_
  refine doL_vg (F := iv) (opV_call en34 rfl (fun w _ => rOf _  w)) rfl rfl rfl ?_; intro r4 hr4
  refine doL_vg (F := po) (opV_call en38 rfl (fun w _ => kJoint _ _ _ _ _ _ _ _ _ _ _ _ _ _ w)) rfl rfl rfl ?_; intro r5 hr5
  refine doL_alloc 1 ze66 rfl rfl rfl ?_; intro b1
  refine doL_store 1 ty66 rfl rfl rfl rfl rfl rfl rfl rfl ?_
  refine doL_nil ?_
  refine post_then ?_
  refine doC_seq ?_
  refine doC_drawn 7 mo (by kernel_rfl) ?_
  simp only [List.take_succ_cons, List.take_zero, List.drop_succ_cons, List.drop_zero]
  refine doG_v (opV_loadA 1 ty66 rfl rfl rfl) rfl rfl rfl ?_
  refine doG_v (opV_build la50 rfl rfl) rfl rfl rfl ?_
  refine doG_vg (F := v3) (opV_call en12 rfl (fun w _ => rPoint _ _ _  w)) rfl rfl rfl ?_; intro r8 hr8
  refine doG_vg (F := v3) (opV_call en39 rfl (fun w _ => qApply _ _ _ _ _ _ _ _ _ _ _ _ _ _ _ _ _ _ _ _ _ _ _ _ _ _ _ _ _ _  w)) rfl rfl rfl ?_; intro r9 hr9
  refine doG_v (opV_build la50 rfl rfl) rfl rfl rfl ?_
  refine doG_vg (F := v3) (opV_call en12 rfl (fun w _ => rPoint _ _ _  w)) rfl rfl rfl ?_; intro r11 hr11
  refine doG_v (opV_eqA 4 rfl ag46 rfl rfl (ce46 _ _ _ _ _ _) (ce46 _ _ _ _ _ _)) rfl rfl rfl ?_
  refine doG_nil ?_
  refine tail_nil ?_
  refine doL_v (opV_assign rfl) rfl rfl rfl ?_
  refine doL_nil ?_
  refine post_then ?_
  refine doC_ret ?_
  refine post_rets (rs := [.tmp 0]) rfl (resC (resIs_tmp rfl) (resN)) (congrArg (vB) (?_ : _ = true))
  show eqCells _ _ = true
  have e9 : r9 = Po.app r5 r8 := hr9
  exact eq_v3 (by rw [e9, show r5 = jPose 3 ⟨9, 0, 0⟩ r4 from hr5, hr4, hr8, hr11]; exact awake11_val)
end Go.Proofs.YtonampcmhhhffaaGreat
namespace Go.Proofs.YtonampcmhhhffaaGreat
open Go.Sx
theorem app60 : appB Tryz.prog 60 66 24 192 = true := by kernel_rfl
theorem kLinks  (aj am ab : Option Addr) (cj nm cm cb n : Nat) (js : List J) (bx : List Iv) (hn : n ≤ 1000) (hjn : js.length = n) (hbn : bx.length = n) (hpar : ∀ (k : Nat) (j : J), js[k]? = some j → -1 ≤ j.parent ∧ j.parent < k) (w : World) (hS : SlcIs 12 aj (js.map jc) w) (hT : SlcIs 2 ab (bx.map ivc) w) : Calls Tryz.prog 29 [.agg #[.slice aj n cj, .slice am nm cm], .slice ab n cb].toArray w (RetsF (X := Nat) (fun _ => True) (fun b => .slice (some ⟨b, 0, none⟩) n n) (fun b => SlcIs 24 (some ⟨b, 0, none⟩) ((lks js bx n).map pc)) w) := by
  refine calls_of_doC (n := 47) Tryz.func29 rfl rfl rfl ?_
  refine doC_seq ?_
  refine doC_region ?_
  refine doL_box 2 rfl rfl rfl rfl ?_; intro b2
  refine doL_v (opV_assign rfl) rfl rfl rfl ?_
  refine doL_nil ?_
  refine post_then ?_
  refine doC_seq ?_
  refine doC_region ?_
  refine doL_v (opV_fieldAddr fa26_0 rfl) rfl rfl rfl ?_
  refine doL_v (opV_load1 2 ty23 rfl rfl rfl) rfl rfl rfl ?_
  refine doL_v (opV_len_slice sl23 rfl) rfl rfl rfl ?_
  refine doL_make 11 (makeB_of app60 ze66) rfl (by omega) (by omega) rfl rfl ?_; intro b11
  refine doL_v (opV_assign rfl) rfl rfl rfl ?_
  refine doL_nil ?_
  refine post_then ?_
  refine doC_seq ?_
  refine doC_seq ?_
  refine doC_region ?_
  refine doL_v (opV_fieldAddr fa26_0 rfl) rfl rfl rfl ?_
  refine doL_v (opV_load1 2 ty23 rfl rfl rfl) rfl rfl rfl ?_
  refine doL_v (opV_len_slice sl23 rfl) rfl rfl rfl ?_
  refine doL_v (opV_move rfl) rfl rfl rfl ?_
  refine doL_nil ?_
  refine post_then ?_
  refine doC_block ?_
  refine doC_loopK [1, 2, 5, 13, 14] [2] (α := Nat × List Po) (fun x => n - x.1) (fun x => x.1 ≤ n ∧ lks js bx x.1 = x.2 ∧ x.2.length = x.1) (fun x => ⟨w, [(11, (· = b11), RowsF b11 24 66 (lkR x.2 (n - x.1)))]⟩) (fun x => [(15, .int .i64 (x.1 : Int))]) (fun _ => []) (0, []) rfl rfl ?_ ?_ ?_ ?_ rfl ?_
  ·
    exact ⟨Nat.zero_le _, rfl, rfl⟩
  ·
    exact rfl
  ·
    repeat' first | exact trivial | exact True.intro | refine ⟨rfl, ?_⟩
  ·
    repeat' first | exact trivial | exact True.intro | refine ⟨rfl, ?_⟩
  rintro ⟨k, ps⟩ ⟨hk, hps, hlen⟩
  dsimp only at hk hps hlen ⊢
  subst hlen
  refine doC_seq ?_
  refine doC_region ?_
  refine doL_v (opV_lss rfl rfl) rfl rfl rfl ?_
  refine doL_nil ?_
  refine post_then ?_
  refine doC_seq ?_
  refine doC_cond rfl (fun hc16 => ?_) (fun hc16 => ?_)
  ·
    have h2 : ps.length < n := by have := of_decide_eq_true hc16; omega
    obtain ⟨j, hjk⟩ : ∃ j, js[ps.length]? = some j := ⟨_, List.getElem?_eq_getElem (by omega)⟩
    obtain ⟨a, hak⟩ : ∃ a, bx[ps.length]? = some a := ⟨_, List.getElem?_eq_getElem (by omega)⟩
    have hj : (js.map jc)[ps.length]? = some (jc j) := by rw [List.getElem?_map, hjk]; rfl
    have ha : (bx.map ivc)[ps.length]? = some (ivc a) := by rw [List.getElem?_map, hak]; rfl
    have hpj := hpar _ j hjk
    obtain ⟨m, hm⟩ : ∃ m, n - ps.length = m + 1 := ⟨n - ps.length - 1, by omega⟩
    rw [hm]
    have hz : (lkR ps (m + 1))[ps.length]? = some zRow := by unfold lkR; rw [List.getElem?_append_right (by simp)]; simp
    refine doC_skip ?_
    refine post_then ?_
    refine doC_seq ?_
    refine doC_block ?_
    refine doC_seq ?_
    refine doC_region ?_
    refine doL_v (opV_move rfl) rfl rfl rfl ?_
    refine doL_v (opV_indexS (e := 84) (holds_base hS) (by kernel_rfl) rfl rfl rfl hj h2) rfl rfl rfl ?_
    refine doL_v (opV_loadSA (vs := [.string j.name, .int .i64 j.kind, .int .i64 j.parent, .int .i64 j.off.x, .int .i64 j.off.y, .int .i64 j.off.z, .int .i64 j.lo, .int .i64 j.hi, .int .i64 j.weight, .int .i64 j.speed, .int .i64 j.accel, .int .i64 j.torque]) ps.length 0 (holds_base hS) hj ty84 rfl rfl) rfl rfl rfl ?_
    refine doL_alloc 7 ze84 rfl rfl rfl ?_; intro b7
    refine doL_v (opV_assign rfl) rfl rfl rfl ?_
    refine doL_store 7 ty84 rfl rfl rfl rfl rfl rfl rfl rfl ?_
    refine doL_nil ?_
    refine post_then ?_
    refine doC_seq ?_
    refine doC_drawn 8 mo (by kernel_rfl) ?_
    simp only [List.take_succ_cons, List.take_zero, List.drop_succ_cons, List.drop_zero]
    refine doG_v (opV_move rfl) rfl rfl rfl ?_
    refine doG_v (opV_move rfl) rfl rfl rfl ?_
    refine doG_v (opV_loadA 7 ty84 rfl rfl rfl) rfl rfl rfl ?_
    refine doG_v (opV_move rfl) rfl rfl rfl ?_
    refine doG_v (opV_move rfl) rfl rfl rfl ?_
    refine doG_v (opV_indexS (e := 44) (holds_base hT) (by kernel_rfl) rfl rfl rfl ha h2) rfl rfl rfl ?_
    refine doG_v (opV_loadSA (vs := [.int .i64 a.lo, .int .i64 a.hi]) ps.length 0 (holds_base hT) ha ty44 rfl rfl) rfl rfl rfl ?_
    refine doG_vg (F := po) (opV_call en38 rfl (fun w _ => kJoint _ _ _ _ _ _ _ _ _ _ _ _ _ _ w)) rfl rfl rfl ?_; intro r27 hr27
    refine doG_nil ?_
    refine tail_nil ?_
    refine doL_v (opV_indexS (e := 66) ((holds_r (id := 11) rfl).imp rowsF_slc) (by kernel_rfl) rfl rfl rfl hz h2) rfl rfl rfl ?_
    refine doL_storeRow (vs := pc r27) (j := ps.length) 11 ty66 rfl rfl rfl (by simp [lkR]) rfl rfl rfl rfl ?_; intro R28 hR28
    obtain rfl := Option.some.inj hR28
    rw [lkR_set]
    refine doL_nil ?_
    refine post_then ?_
    refine doC_seq ?_
    refine doC_region ?_
    refine doL_v (opV_fieldAddr fa84_2 rfl) rfl rfl rfl ?_
    refine doL_v (opV_load1 7 ty3 rfl rfl rfl) rfl rfl rfl ?_
    refine doL_v (opV_neq rfl rfl) rfl rfl rfl ?_
    refine doL_nil ?_
    refine post_then ?_
    refine doC_cond rfl (fun hc31 => ?_) (fun hc31 => ?_)
    ·
      have hp : ¬ j.parent = -1 := by simpa using hc31
      have hpl : j.parent.toNat < ps.length := by omega
      have hpn : j.parent = ((j.parent.toNat : Nat) : Int) := by omega
      refine doC_drawn 12 mo (by kernel_rfl) ?_
      simp only [List.take_succ_cons, List.take_zero, List.drop_succ_cons, List.drop_zero]
      refine doG_v (opV_move rfl) rfl rfl rfl ?_
      refine doG_v (opV_move rfl) rfl rfl rfl ?_
      refine doG_v (opV_move rfl) rfl rfl rfl ?_
      refine doG_v (opV_fieldAddr fa84_2 rfl) rfl rfl rfl ?_
      refine doG_v (opV_load1 7 ty3 rfl rfl rfl) rfl rfl rfl ?_
      refine doG_v (opV_indexS (e := 66) ((holds_r (id := 11) rfl).imp rowsF_slc) (by kernel_rfl) rfl rfl hpn (lkR_at hpl) (by omega)) rfl rfl rfl ?_
      refine doG_v (opV_loadSA (vs := pc (ps.getD j.parent.toNat Po.rest)) j.parent.toNat 0 ((holds_r (id := 11) rfl).imp rowsF_slc) (lkR_at hpl) ty66 rfl rfl) rfl rfl rfl ?_
      refine doG_v (opV_move rfl) rfl rfl rfl ?_
      refine doG_v (opV_move rfl) rfl rfl rfl ?_
      refine doG_v (opV_indexS (e := 66) ((holds_r (id := 11) rfl).imp rowsF_slc) (by kernel_rfl) rfl rfl rfl lkR_me h2) rfl rfl rfl ?_
      refine doG_v (opV_loadSA (vs := pc r27) ps.length 0 ((holds_r (id := 11) rfl).imp rowsF_slc) lkR_me ty66 rfl rfl) rfl rfl rfl ?_
      refine doG_vg (F := po) (opV_call en54 rfl (fun w _ => pCompose _ _ _ _ _ _ _ _ _ _ _ _ _ _ _ _ _ _ _ _ _ _ _ _ _ _ _ _ _ _ _ _ _ _ _ _ _ _ _ _ _ _ _ _ _ _ _ _  w)) rfl rfl rfl ?_; intro r43 hr43
      refine doG_nil ?_
      refine tail_nil ?_
      refine doL_v (opV_indexS (e := 66) ((holds_r (id := 11) rfl).imp rowsF_slc) (by kernel_rfl) rfl rfl rfl lkR_me h2) rfl rfl rfl ?_
      refine doL_storeRow (vs := pc r43) (j := ps.length) 11 ty66 rfl rfl rfl (by simp [lkR]) rfl rfl rfl rfl ?_; intro R44 hR44
      obtain rfl := Option.some.inj hR44
      rw [lkR_set2]
      refine doL_nil ?_
      refine post_block_normal ?_
      refine post_then ?_
      refine doC_region ?_
      refine doL_v (opV_add rfl rfl (inc_nat (by omega))) rfl rfl rfl ?_
      refine doL_v (opV_move rfl) rfl rfl rfl ?_
      refine doL_nil ?_
      refine post_again (ps.length + 1, ps ++ [r43]) (by refine ⟨?_, ?_, ?_⟩ <;> dsimp only; omega; rw [lks_succ hjk hak, hps]; exact congrArg (fun x => ps ++ [x]) ((if_neg hp).trans (by rw [show r43 = Po.mul (ps.getD j.parent.toNat Po.rest) r27 from hr43, hr27]; try rfl)); simp) (by show n - (ps.length + 1) < n - ps.length; omega) (by dsimp only; rw [show n - (ps.length + 1) = m by omega, ← lkR_done]; try rfl) ?_ ?_ rfl
      repeat' first | exact trivial | exact True.intro | refine ⟨rfl, ?_⟩
    ·
      have hp : j.parent = -1 := by simpa using hc31
      refine doC_skip ?_
      refine post_block_normal ?_
      refine post_then ?_
      refine doC_region ?_
      refine doL_v (opV_add rfl rfl (inc_nat (by omega))) rfl rfl rfl ?_
      refine doL_v (opV_move rfl) rfl rfl rfl ?_
      refine doL_nil ?_
      refine post_again (ps.length + 1, ps ++ [r27]) (by refine ⟨?_, ?_, ?_⟩ <;> dsimp only; omega; rw [lks_succ hjk hak, hps]; exact congrArg (fun x => ps ++ [x]) ((if_pos hp).trans hr27.symm); simp) (by show n - (ps.length + 1) < n - ps.length; omega) (by dsimp only; rw [show n - (ps.length + 1) = m by omega, ← lkR_done]; try rfl) ?_ ?_ rfl
      repeat' first | exact trivial | exact True.intro | refine ⟨rfl, ?_⟩
  ·
    have h2 : ps.length = n := by have := of_decide_eq_false hc16; omega
    refine doC_exit ?_
    refine post_then_exit ?_
    refine post_then_exit ?_
    refine post_block_exit ?_
    refine post_then ?_
    refine doC_seq ?_
    refine doC_region ?_
    refine doL_v (opV_move rfl) rfl rfl rfl ?_
    refine doL_v (opV_assign rfl) rfl rfl rfl ?_
    refine doL_nil ?_
    refine post_then ?_
    refine doC_ret ?_
    refine post_ret (rs := [.tmp 4]) rfl (resC (resIs_tmp rfl) (resN)) rfl ?_
    intro w2 k2
    obtain ⟨_, q2, q3⟩ := k2.facts _ List.mem_cons_self
    refine ⟨b11, trivial, rfl, k2.grow, ownD _, slc_dep _ _ _, fun z hz => ?_, ?_⟩
    · obtain ⟨ad, h1, h2⟩ := hz
      cases h1
      subst h2
      exact ⟨(q2 _ rfl).1, (q2 _ rfl).2.1⟩
    · have q4 := rowsF_slc _ q3
      rw [← h2, hps]
      simpa [lkR, h2] using q4
end Go.Proofs.YtonampcmhhhffaaGreat
namespace Go.Proofs.YtonampcmhhhffaaGreat
open Go.Sx
def limK (k : Int) : Int := if k = 1 ∨ k = 2 ∨ k = 3 then 524288 else if k = 4 ∨ k = 5 ∨ k = 6 then 4194304 else 0
theorem cFrom1 (x : Int) (m : Int) (w : World) : Calls Tryz.prog 103 [.int .i64 x, .int .i64 m].toArray w (Rets (vB ((decide (1 ≤ x) && decide (x ≤ m)))) (w)) := by
  refine calls_of_doC (n := 12) Tryz.func103 rfl rfl rfl ?_
  refine doC_seq ?_
  refine doC_region ?_
  refine doL_v (opV_assign rfl) rfl rfl rfl ?_
  refine doL_nil ?_
  refine post_then ?_
  refine doC_seq ?_
  refine doC_region ?_
  refine doL_v (opV_move rfl) rfl rfl rfl ?_
  refine doL_v (opV_leq rfl rfl) rfl rfl rfl ?_
  refine doL_v (opV_move rfl) rfl rfl rfl ?_
  refine doL_split 7 rfl (fun hg7 => ?_) (fun hg7 => ?_)
  ·
    refine doL_v (opV_move rfl) rfl rfl rfl ?_
    refine doL_v (opV_move rfl) rfl rfl rfl ?_
    refine doL_v (opV_leq rfl rfl) rfl rfl rfl ?_
    refine doL_v (opV_pick_t rfl rfl rfl rfl) rfl rfl rfl ?_
    refine doL_v (opV_assign rfl) rfl rfl rfl ?_
    refine doL_nil ?_
    refine post_then ?_
    refine doC_ret ?_
    refine post_rets (rs := [.tmp 4]) rfl (resC (resIs_tmp rfl) (resN)) (congrArg (vB) (?_ : _ = (decide (1 ≤ x) && decide (x ≤ m))))
    simp_all
  ·
    refine doL_skip rfl rfl rfl ?_
    refine doL_skip rfl rfl rfl ?_
    refine doL_skip rfl rfl rfl ?_
    refine doL_v (opV_pick_f rfl rfl rfl rfl) rfl rfl rfl ?_
    refine doL_v (opV_assign rfl) rfl rfl rfl ?_
    refine doL_nil ?_
    refine post_then ?_
    refine doC_ret ?_
    refine post_rets (rs := [.tmp 4]) rfl (resC (resIs_tmp rfl) (resN)) (congrArg (vB) (?_ : _ = (decide (1 ≤ x) && decide (x ≤ m))))
    simp_all; omega
theorem cLimit (k : Int) (w : World) : Calls Tryz.prog 102 [.int .i64 k].toArray w (Rets (vI (limK k)) (w)) := by
  refine calls_of_doC (n := 12) Tryz.func102 rfl rfl rfl ?_
  refine doC_seq ?_
  refine doC_region ?_
  refine doL_v (opV_assign rfl) rfl rfl rfl ?_
  refine doL_nil ?_
  refine post_then ?_
  refine doC_seq ?_
  refine doC_seq ?_
  refine doC_region ?_
  refine doL_v (opV_move rfl) rfl rfl rfl ?_
  refine doL_nil ?_
  refine post_then ?_
  refine doC_block ?_
  refine doC_seq ?_
  refine doC_seq ?_
  refine doC_region ?_
  refine doL_v (opV_eql rfl rfl) rfl rfl rfl ?_
  refine doL_v (opV_assign rfl) rfl rfl rfl ?_
  refine doL_nil ?_
  refine post_then ?_
  refine doC_cond rfl (fun hc4 => ?_) (fun hc4 => ?_)
  ·
    have e := of_decide_eq_true hc4
    refine doC_skip ?_
    refine post_then ?_
    refine doC_cond_t rfl (hc4) ?_
    refine doC_seq ?_
    refine doC_region ?_
    refine doL_v (opV_assign rfl) rfl rfl rfl ?_
    refine doL_nil ?_
    refine post_then ?_
    refine doC_ret ?_
    refine post_block_ret ?_
    refine post_then_ret ?_
    refine post_rets (rs := [.tmp 2]) rfl (resC (resIs_tmp rfl) (resN)) (congrArg (vI) (?_ : _ = limK k))
    unfold limK; split <;> (try split) <;> omega
  ·
    have e := of_decide_eq_false hc4
    refine doC_seq ?_
    refine doC_region ?_
    refine doL_v (opV_eql rfl rfl) rfl rfl rfl ?_
    refine doL_v (opV_assign rfl) rfl rfl rfl ?_
    refine doL_nil ?_
    refine post_then ?_
    refine doC_cond rfl (fun hc4_2 => ?_) (fun hc4_2 => ?_)
    ·
      have e := of_decide_eq_true hc4_2
      refine doC_skip ?_
      refine post_then ?_
      refine doC_cond_t rfl (hc4_2) ?_
      refine doC_seq ?_
      refine doC_region ?_
      refine doL_v (opV_assign rfl) rfl rfl rfl ?_
      refine doL_nil ?_
      refine post_then ?_
      refine doC_ret ?_
      refine post_block_ret ?_
      refine post_then_ret ?_
      refine post_rets (rs := [.tmp 2]) rfl (resC (resIs_tmp rfl) (resN)) (congrArg (vI) (?_ : _ = limK k))
      unfold limK; split <;> (try split) <;> omega
    ·
      have e := of_decide_eq_false hc4_2
      refine doC_region ?_
      refine doL_v (opV_eql rfl rfl) rfl rfl rfl ?_
      refine doL_v (opV_assign rfl) rfl rfl rfl ?_
      refine doL_nil ?_
      refine post_then ?_
      refine doC_cond rfl (fun hc4_3 => ?_) (fun hc4_3 => ?_)
      ·
        have e := of_decide_eq_true hc4_3
        refine doC_seq ?_
        refine doC_region ?_
        refine doL_v (opV_assign rfl) rfl rfl rfl ?_
        refine doL_nil ?_
        refine post_then ?_
        refine doC_ret ?_
        refine post_block_ret ?_
        refine post_then_ret ?_
        refine post_rets (rs := [.tmp 2]) rfl (resC (resIs_tmp rfl) (resN)) (congrArg (vI) (?_ : _ = limK k))
        unfold limK; split <;> (try split) <;> omega
      ·
        have e := of_decide_eq_false hc4_3
        refine doC_seq ?_
        refine doC_seq ?_
        refine doC_region ?_
        refine doL_v (opV_eql rfl rfl) rfl rfl rfl ?_
        refine doL_v (opV_assign rfl) rfl rfl rfl ?_
        refine doL_nil ?_
        refine post_then ?_
        refine doC_cond rfl (fun hc8 => ?_) (fun hc8 => ?_)
        ·
          have e := of_decide_eq_true hc8
          refine doC_skip ?_
          refine post_then ?_
          refine doC_cond_t rfl (hc8) ?_
          refine doC_seq ?_
          refine doC_region ?_
          refine doL_v (opV_assign rfl) rfl rfl rfl ?_
          refine doL_nil ?_
          refine post_then ?_
          refine doC_ret ?_
          refine post_block_ret ?_
          refine post_then_ret ?_
          refine post_rets (rs := [.tmp 2]) rfl (resC (resIs_tmp rfl) (resN)) (congrArg (vI) (?_ : _ = limK k))
          unfold limK; split <;> (try split) <;> omega
        ·
          have e := of_decide_eq_false hc8
          refine doC_seq ?_
          refine doC_region ?_
          refine doL_v (opV_eql rfl rfl) rfl rfl rfl ?_
          refine doL_v (opV_assign rfl) rfl rfl rfl ?_
          refine doL_nil ?_
          refine post_then ?_
          refine doC_cond rfl (fun hc8_2 => ?_) (fun hc8_2 => ?_)
          ·
            have e := of_decide_eq_true hc8_2
            refine doC_skip ?_
            refine post_then ?_
            refine doC_cond_t rfl (hc8_2) ?_
            refine doC_seq ?_
            refine doC_region ?_
            refine doL_v (opV_assign rfl) rfl rfl rfl ?_
            refine doL_nil ?_
            refine post_then ?_
            refine doC_ret ?_
            refine post_block_ret ?_
            refine post_then_ret ?_
            refine post_rets (rs := [.tmp 2]) rfl (resC (resIs_tmp rfl) (resN)) (congrArg (vI) (?_ : _ = limK k))
            unfold limK; split <;> (try split) <;> omega
          ·
            have e := of_decide_eq_false hc8_2
            refine doC_region ?_
            refine doL_v (opV_eql rfl rfl) rfl rfl rfl ?_
            refine doL_v (opV_assign rfl) rfl rfl rfl ?_
            refine doL_nil ?_
            refine post_then ?_
            refine doC_cond rfl (fun hc8_3 => ?_) (fun hc8_3 => ?_)
            ·
              have e := of_decide_eq_true hc8_3
              refine doC_seq ?_
              refine doC_region ?_
              refine doL_v (opV_assign rfl) rfl rfl rfl ?_
              refine doL_nil ?_
              refine post_then ?_
              refine doC_ret ?_
              refine post_block_ret ?_
              refine post_then_ret ?_
              refine post_rets (rs := [.tmp 2]) rfl (resC (resIs_tmp rfl) (resN)) (congrArg (vI) (?_ : _ = limK k))
              unfold limK; split <;> (try split) <;> omega
            ·
              have e := of_decide_eq_false hc8_3
              refine doC_skip ?_
              refine post_block_normal ?_
              refine post_then ?_
              refine doC_seq ?_
              refine doC_region ?_
              refine doL_v (opV_assign rfl) rfl rfl rfl ?_
              refine doL_nil ?_
              refine post_then ?_
              refine doC_ret ?_
              refine post_rets (rs := [.tmp 2]) rfl (resC (resIs_tmp rfl) (resN)) (congrArg (vI) (?_ : _ = limK k))
              unfold limK; split <;> (try split) <;> omega
theorem ix3_0 {p0 p1 p2 : Int} : ∀ w : World, (Instr.index 50 (.agg #[.int .i64 p0, .int .i64 p1, .int .i64 p2]) (.int .i64 0)).run Tryz.prog w = .ok (.int .i64 p0) w := fun w => by kernel_rfl
theorem ix3_1 {p0 p1 p2 : Int} : ∀ w : World, (Instr.index 50 (.agg #[.int .i64 p0, .int .i64 p1, .int .i64 p2]) (.int .i64 1)).run Tryz.prog w = .ok (.int .i64 p1) w := fun w => by kernel_rfl
theorem ix3_2 {p0 p1 p2 : Int} : ∀ w : World, (Instr.index 50 (.agg #[.int .i64 p0, .int .i64 p1, .int .i64 p2]) (.int .i64 2)).run Tryz.prog w = .ok (.int .i64 p2) w := fun w => by kernel_rfl
theorem cBeyond (p0 p1 p2 : Int) (h0 : -4194304 ≤ p0 ∧ p0 ≤ 4194304) (h1 : -4194304 ≤ p1 ∧ p1 ≤ 4194304) (h2 : -4194304 ≤ p2 ∧ p2 ≤ 4194304) (w : World) : Calls Tryz.prog 101 [.agg #[.int .i64 p0, .int .i64 p1, .int .i64 p2]].toArray w (Rets (vB (false)) (w)) := by
  refine calls_of_doC (n := 16) Tryz.func101 rfl rfl rfl ?_
  refine doC_seq ?_
  refine doC_region ?_
  refine doL_box 1 rfl rfl rfl rfl ?_; intro b1
  refine doL_v (opV_assign rfl) rfl rfl rfl ?_
  refine doL_nil ?_
  refine post_then ?_
  refine doC_seq ?_
  refine doC_seq ?_
  refine doC_region ?_
  refine doL_v (opV_loadA 1 ty50 rfl rfl rfl) rfl rfl rfl ?_
  refine doL_v (opV_move rfl) rfl rfl rfl ?_
  refine doL_nil ?_
  refine post_then ?_
  refine doC_block ?_
  refine doC_rounds 4 ?_
  refine doR_succ ?_
  refine doC_seq ?_
  refine doC_region ?_
  refine doL_v (opV_lss rfl rfl) rfl rfl rfl ?_
  refine doL_nil ?_
  refine post_then ?_
  refine doC_seq ?_
  refine doC_cond_t rfl (by decide) ?_
  refine doC_skip ?_
  refine post_then ?_
  refine doC_seq ?_
  refine doC_block ?_
  refine doC_seq ?_
  refine doC_region ?_
  refine doL_v (opV_index rfl rfl (ix3_0)) rfl rfl rfl ?_
  refine doL_v (opV_assign rfl) rfl rfl rfl ?_
  refine doL_nil ?_
  refine post_then ?_
  refine doC_seq ?_
  refine doC_region ?_
  refine doL_v (opV_move rfl) rfl rfl rfl ?_
  refine doL_v (opV_lss rfl rfl) rfl rfl rfl ?_
  refine doL_v (opV_move rfl) rfl rfl rfl ?_
  refine doL_false 11 rfl (by rw [decide_eq_false_iff_not]; omega) ?_
  refine doL_v (opV_move rfl) rfl rfl rfl ?_
  refine doL_v (opV_gtr rfl rfl) rfl rfl rfl ?_
  refine doL_v (opV_pick_f rfl rfl rfl rfl) rfl rfl rfl ?_
  refine doL_nil ?_
  refine post_then ?_
  refine doC_cond_f rfl (by rw [decide_eq_false_iff_not]; omega) ?_
  refine doC_skip ?_
  refine post_block_normal ?_
  refine post_then ?_
  refine doC_region ?_
  refine doL_v (opV_add rfl rfl (by first | exact i64_in ⟨by omega, by omega⟩ | rfl)) rfl rfl rfl ?_
  refine doL_v (opV_move rfl) rfl rfl rfl ?_
  refine doL_nil ?_
  refine post_rounds ?_
  refine doR_succ ?_
  refine doC_seq ?_
  refine doC_region ?_
  refine doL_v (opV_lss rfl rfl) rfl rfl rfl ?_
  refine doL_nil ?_
  refine post_then ?_
  refine doC_seq ?_
  refine doC_cond_t rfl (by decide) ?_
  refine doC_skip ?_
  refine post_then ?_
  refine doC_seq ?_
  refine doC_block ?_
  refine doC_seq ?_
  refine doC_region ?_
  refine doL_v (opV_index rfl rfl (ix3_1)) rfl rfl rfl ?_
  refine doL_v (opV_assign rfl) rfl rfl rfl ?_
  refine doL_nil ?_
  refine post_then ?_
  refine doC_seq ?_
  refine doC_region ?_
  refine doL_v (opV_move rfl) rfl rfl rfl ?_
  refine doL_v (opV_lss rfl rfl) rfl rfl rfl ?_
  refine doL_v (opV_move rfl) rfl rfl rfl ?_
  refine doL_false 11 rfl (by rw [decide_eq_false_iff_not]; omega) ?_
  refine doL_v (opV_move rfl) rfl rfl rfl ?_
  refine doL_v (opV_gtr rfl rfl) rfl rfl rfl ?_
  refine doL_v (opV_pick_f rfl rfl rfl rfl) rfl rfl rfl ?_
  refine doL_nil ?_
  refine post_then ?_
  refine doC_cond_f rfl (by rw [decide_eq_false_iff_not]; omega) ?_
  refine doC_skip ?_
  refine post_block_normal ?_
  refine post_then ?_
  refine doC_region ?_
  refine doL_v (opV_add rfl rfl (by first | exact i64_in ⟨by omega, by omega⟩ | rfl)) rfl rfl rfl ?_
  refine doL_v (opV_move rfl) rfl rfl rfl ?_
  refine doL_nil ?_
  refine post_rounds ?_
  refine doR_succ ?_
  refine doC_seq ?_
  refine doC_region ?_
  refine doL_v (opV_lss rfl rfl) rfl rfl rfl ?_
  refine doL_nil ?_
  refine post_then ?_
  refine doC_seq ?_
  refine doC_cond_t rfl (by decide) ?_
  refine doC_skip ?_
  refine post_then ?_
  refine doC_seq ?_
  refine doC_block ?_
  refine doC_seq ?_
  refine doC_region ?_
  refine doL_v (opV_index rfl rfl (ix3_2)) rfl rfl rfl ?_
  refine doL_v (opV_assign rfl) rfl rfl rfl ?_
  refine doL_nil ?_
  refine post_then ?_
  refine doC_seq ?_
  refine doC_region ?_
  refine doL_v (opV_move rfl) rfl rfl rfl ?_
  refine doL_v (opV_lss rfl rfl) rfl rfl rfl ?_
  refine doL_v (opV_move rfl) rfl rfl rfl ?_
  refine doL_false 11 rfl (by rw [decide_eq_false_iff_not]; omega) ?_
  refine doL_v (opV_move rfl) rfl rfl rfl ?_
  refine doL_v (opV_gtr rfl rfl) rfl rfl rfl ?_
  refine doL_v (opV_pick_f rfl rfl rfl rfl) rfl rfl rfl ?_
  refine doL_nil ?_
  refine post_then ?_
  refine doC_cond_f rfl (by rw [decide_eq_false_iff_not]; omega) ?_
  refine doC_skip ?_
  refine post_block_normal ?_
  refine post_then ?_
  refine doC_region ?_
  refine doL_v (opV_add rfl rfl (by first | exact i64_in ⟨by omega, by omega⟩ | rfl)) rfl rfl rfl ?_
  refine doL_v (opV_move rfl) rfl rfl rfl ?_
  refine doL_nil ?_
  refine post_rounds ?_
  refine doR_succ ?_
  refine doC_seq ?_
  refine doC_region ?_
  refine doL_v (opV_lss rfl rfl) rfl rfl rfl ?_
  refine doL_nil ?_
  refine post_then ?_
  refine doC_seq ?_
  refine doC_cond_f rfl (by decide) ?_
  refine doC_exit ?_
  refine post_then_exit ?_
  refine post_then_exit ?_
  refine post_block_exit ?_
  refine post_then ?_
  refine doC_seq ?_
  refine doC_region ?_
  refine doL_v (opV_assign rfl) rfl rfl rfl ?_
  refine doL_nil ?_
  refine post_then ?_
  refine doC_ret ?_
  refine post_rets (rs := [.tmp 2]) rfl (resC (resIs_tmp rfl) (resN)) (congrArg (vB) (?_ : _ = false))
  rfl
end Go.Proofs.YtonampcmhhhffaaGreat
namespace Go.Proofs.YtonampcmhhhffaaGreat
open Go.Sx
theorem en80 : Enters Tryz.prog 80 := enters_of Tryz.func80 (by kernel_rfl) (by kernel_rfl)
theorem en49 : Enters Tryz.prog 49 := enters_of Tryz.func49 (by kernel_rfl) (by kernel_rfl)
theorem isBox1 (a0 a1 : Int) (w : World) : Calls Tryz.prog 50 [.agg #[.int .i64 a0, .int .i64 a1]].toArray w (Rets (vB ((!(Iv.valid (⟨a0, a1⟩ : Iv))))) (w)) := by
  refine calls_of_doC (n := 6) Tryz.func50 rfl rfl rfl ?_
  refine doC_seq ?_
  refine doC_region ?_
  refine doL_box 1 rfl rfl rfl rfl ?_; intro b1
  refine doL_v (opV_assign rfl) rfl rfl rfl ?_
  refine doL_nil ?_
  refine post_then ?_
  refine doC_seq ?_
  refine doC_region ?_
  refine doL_v (opV_loadA 1 ty44 rfl rfl rfl) rfl rfl rfl ?_
  refine doL_vg (F := vB) (opV_call en51 rfl (fun w _ => iValid _ _  w)) rfl rfl rfl ?_; intro r4 hr4
  refine doL_v (opV_not rfl) rfl rfl rfl ?_
  refine doL_v (opV_assign rfl) rfl rfl rfl ?_
  refine doL_nil ?_
  refine post_then ?_
  refine doC_ret ?_
  refine post_rets (rs := [.tmp 2]) rfl (resC (resIs_tmp rfl) (resN)) (congrArg (vB) (?_ : _ = (!(Iv.valid (⟨a0, a1⟩ : Iv)))))
  subst_vars; rfl
theorem en_ib : Enters Tryz.prog 50 := enters_of Tryz.func50 (by kernel_rfl) (by kernel_rfl)
theorem ixIv  (ab : Option Addr) (cb n : Nat) (bx : List Iv) (hn : n ≤ 1000) (hbn : bx.length = n) (hv : ∀ a ∈ bx, Iv.valid a = true) (w : World) (hT : SlcIs 2 ab (bx.map ivc) w) : Calls Tryz.prog 80 [.slice ab n cb, .func (.func 50) #[] #[]].toArray w (Rets (vI (-1)) (w)) := by
  refine calls_of_doC (n := 19) Tryz.func80 rfl rfl rfl ?_
  refine doC_seq ?_
  refine doC_region ?_
  refine doL_v (opV_assign rfl) rfl rfl rfl ?_
  refine doL_nil ?_
  refine post_then ?_
  refine doC_seq ?_
  refine doC_seq ?_
  refine doC_region ?_
  refine doL_v (opV_move rfl) rfl rfl rfl ?_
  refine doL_v (opV_len_slice sl34 rfl) rfl rfl rfl ?_
  refine doL_v (opV_move rfl) rfl rfl rfl ?_
  refine doL_nil ?_
  refine post_then ?_
  refine doC_block ?_
  refine doC_loopK [0, 1, 7] [] (α := Nat) (fun x => n - x) (fun x => x ≤ n) (fun _ => ⟨w, []⟩) (fun x => [(8, .int .i64 (x : Int))]) (fun _ => []) 0 rfl rfl ?_ ?_ ?_ ?_ rfl ?_
  ·
    exact Nat.zero_le _
  ·
    exact rfl
  ·
    repeat' first | exact trivial | exact True.intro | refine ⟨rfl, ?_⟩
  ·
    repeat' first | exact trivial | exact True.intro | refine ⟨rfl, ?_⟩
  rintro k hk
  try dsimp only at hk ⊢
  refine doC_seq ?_
  refine doC_region ?_
  refine doL_v (opV_lss rfl rfl) rfl rfl rfl ?_
  refine doL_nil ?_
  refine post_then ?_
  refine doC_seq ?_
  refine doC_cond rfl (fun hc9 => ?_) (fun hc9 => ?_)
  ·
    have h2 : k < n := by have := of_decide_eq_true hc9; omega
    obtain ⟨a, hak⟩ : ∃ a, bx[k]? = some a := ⟨_, List.getElem?_eq_getElem (by omega)⟩
    have ha : (bx.map ivc)[k]? = some (ivc a) := by rw [List.getElem?_map, hak]; rfl
    have hva := hv a (List.mem_of_getElem? hak)
    refine doC_skip ?_
    refine post_then ?_
    refine doC_seq ?_
    refine doC_block ?_
    refine doC_seq ?_
    refine doC_region ?_
    refine doL_v (opV_move rfl) rfl rfl rfl ?_
    refine doL_v (opV_assign rfl) rfl rfl rfl ?_
    refine doL_nil ?_
    refine post_then ?_
    refine doC_seq ?_
    refine doC_region ?_
    refine doL_v (opV_move rfl) rfl rfl rfl ?_
    refine doL_v (opV_move rfl) rfl rfl rfl ?_
    refine doL_v (opV_move rfl) rfl rfl rfl ?_
    refine doL_v (opV_indexS (e := 44) (holds_base hT) (by kernel_rfl) rfl rfl rfl ha h2) rfl rfl rfl ?_
    refine doL_v (opV_loadSA (vs := [.int .i64 a.lo, .int .i64 a.hi]) k 0 (holds_base hT) ha ty44 rfl rfl) rfl rfl rfl ?_
    refine doL_vg (F := vB) (opV_callV en_ib rfl rfl rfl (fun w _ => isBox1 _ _ w)) rfl rfl rfl ?_; intro r16 hr16
    refine doL_nil ?_
    refine post_then ?_
    refine doC_cond_f rfl (by rw [hr16]; exact congrArg not hva) ?_
    refine doC_skip ?_
    refine post_block_normal ?_
    refine post_then ?_
    refine doC_region ?_
    refine doL_v (opV_add rfl rfl (inc_nat (by omega))) rfl rfl rfl ?_
    refine doL_v (opV_move rfl) rfl rfl rfl ?_
    refine doL_nil ?_
    refine post_again (k + 1) (by show k + 1 ≤ n; omega) (by show n - (k + 1) < n - k; omega) rfl ?_ ?_ rfl
    repeat' first | exact trivial | exact True.intro | refine ⟨rfl, ?_⟩
  ·
    refine doC_exit ?_
    refine post_then_exit ?_
    refine post_then_exit ?_
    refine post_block_exit ?_
    refine post_then ?_
    refine doC_seq ?_
    refine doC_region ?_
    refine doL_v (opV_assign rfl) rfl rfl rfl ?_
    refine doL_nil ?_
    refine post_then ?_
    refine doC_ret ?_
    refine post_rets (rs := [.tmp 4]) rfl (resC (resIs_tmp rfl) (resN)) (congrArg (vI) (?_ : _ = -1))
    rfl
theorem hasIv  (ab : Option Addr) (cb n : Nat) (bx : List Iv) (hn : n ≤ 1000) (hbn : bx.length = n) (hv : ∀ a ∈ bx, Iv.valid a = true) (w : World) (hT : SlcIs 2 ab (bx.map ivc) w) : Calls Tryz.prog 49 [.slice ab n cb, .func (.func 50) #[] #[]].toArray w (Rets (vB (false)) (w)) := by
  refine calls_of_doC (n := 9) Tryz.func49 rfl rfl rfl ?_
  refine doC_seq ?_
  refine doC_region ?_
  refine doL_v (opV_assign rfl) rfl rfl rfl ?_
  refine doL_nil ?_
  refine post_then ?_
  refine doC_seq ?_
  refine doC_region ?_
  refine doL_v (opV_move rfl) rfl rfl rfl ?_
  refine doL_v (opV_move rfl) rfl rfl rfl ?_
  refine doL_vg (F := vI) (opV_call en80 rfl (fun w' k => ixIv ab cb n bx hn hbn hv w' (slc_grow hT k.grow))) rfl rfl rfl ?_; intro r7 hr7
  refine doL_v (opV_geq rfl rfl) rfl rfl rfl ?_
  refine doL_v (opV_assign rfl) rfl rfl rfl ?_
  refine doL_nil ?_
  refine post_then ?_
  refine doC_ret ?_
  refine post_rets (rs := [.tmp 4]) rfl (resC (resIs_tmp rfl) (resN)) (congrArg (vB) (?_ : _ = false))
  rw [hr7]; rfl
theorem kIsBox  (aj am ab : Option Addr) (cj nm cm cb n : Nat) (bx : List Iv) (hn : n ≤ 1000) (hbn : bx.length = n) (hv : ∀ a ∈ bx, Iv.valid a = true) (w : World) (hT : SlcIs 2 ab (bx.map ivc) w) : Calls Tryz.prog 27 [.agg #[.slice aj n cj, .slice am nm cm], .slice ab n cb].toArray w (Rets (vB (true)) (w)) := by
  refine calls_of_doC (n := 16) Tryz.func27 rfl rfl rfl ?_
  refine doC_seq ?_
  refine doC_region ?_
  refine doL_box 2 rfl rfl rfl rfl ?_; intro b2
  refine doL_v (opV_assign rfl) rfl rfl rfl ?_
  refine doL_nil ?_
  refine post_then ?_
  refine doC_seq ?_
  refine doC_region ?_
  refine doL_v (opV_move rfl) rfl rfl rfl ?_
  refine doL_v (opV_len_slice sl34 rfl) rfl rfl rfl ?_
  refine doL_v (opV_fieldAddr fa26_0 rfl) rfl rfl rfl ?_
  refine doL_v (opV_load1 2 ty23 rfl rfl rfl) rfl rfl rfl ?_
  refine doL_v (opV_len_slice sl23 rfl) rfl rfl rfl ?_
  refine doL_v (opV_eql rfl rfl) rfl rfl rfl ?_
  refine doL_v (opV_move rfl) rfl rfl rfl ?_
  refine doL_true 11 rfl (decide_eq_true rfl) ?_
  refine doL_v (opV_move rfl) rfl rfl rfl ?_
  refine doL_vg (F := vB) (opV_call en49 rfl (fun w' k => hasIv ab cb n bx hn hbn hv w' (slc_grow hT k.grow))) rfl rfl rfl ?_; intro r13 hr13
  refine doL_v (opV_not rfl) rfl rfl rfl ?_
  refine doL_v (opV_pick_t rfl rfl rfl rfl) rfl rfl rfl ?_
  refine doL_v (opV_assign rfl) rfl rfl rfl ?_
  refine doL_nil ?_
  refine post_then ?_
  refine doC_ret ?_
  refine post_rets (rs := [.tmp 4]) rfl (resC (resIs_tmp rfl) (resN)) (congrArg (vB) (?_ : _ = true))
  rw [hr13]; rfl
end Go.Proofs.YtonampcmhhhffaaGreat
namespace Go.Proofs.YtonampcmhhhffaaGreat
open Go.Sx
theorem fa84_0 : fieldB Tryz.prog 84 0 0 = true := by kernel_rfl
theorem ty9 : tyB Tryz.prog 9 false 1 = true := by kernel_rfl
theorem cFind  (aj am : Option Addr) (cj nm cm n i : Nat) (js : List J) (s : ByteArray) (hn : n ≤ 1000) (hjn : js.length = n) (hin : i < n) (hne : ∀ (k : Nat), k < i → ∀ (j : J), js[k]? = some j → (j.name.toList == s.toList) = false) (hi : ∃ j, js[i]? = some j ∧ (j.name.toList == s.toList) = true) (w : World) (hS : SlcIs 12 aj (js.map jc) w) : Calls Tryz.prog 100 [.agg #[.slice aj n cj, .slice am nm cm], .string s].toArray w (Rets (vI ((i : Int))) (w)) := by
  refine calls_of_doC (n := 22) Tryz.func100 rfl rfl rfl ?_
  refine doC_seq ?_
  refine doC_region ?_
  refine doL_box 2 rfl rfl rfl rfl ?_; intro b2
  refine doL_v (opV_assign rfl) rfl rfl rfl ?_
  refine doL_nil ?_
  refine post_then ?_
  refine doC_seq ?_
  refine doC_seq ?_
  refine doC_region ?_
  refine doL_v (opV_fieldAddr fa26_0 rfl) rfl rfl rfl ?_
  refine doL_v (opV_load1 2 ty23 rfl rfl rfl) rfl rfl rfl ?_
  refine doL_v (opV_len_slice sl23 rfl) rfl rfl rfl ?_
  refine doL_v (opV_move rfl) rfl rfl rfl ?_
  refine doL_nil ?_
  refine post_then ?_
  refine doC_block ?_
  refine doC_loopK [1, 2, 8] [2] (α := Nat) (fun x => n - x) (fun x => x ≤ i) (fun _ => ⟨w, []⟩) (fun x => [(9, .int .i64 (x : Int))]) (fun _ => []) 0 rfl rfl ?_ ?_ ?_ ?_ rfl ?_
  ·
    exact Nat.zero_le _
  ·
    exact rfl
  ·
    repeat' first | exact trivial | exact True.intro | refine ⟨rfl, ?_⟩
  ·
    repeat' first | exact trivial | exact True.intro | refine ⟨rfl, ?_⟩
  rintro k hk
  try dsimp only at hk ⊢
  have h2 : k < n := by omega
  obtain ⟨j, hjk⟩ : ∃ j, js[k]? = some j := ⟨_, List.getElem?_eq_getElem (by omega)⟩
  have hj : (js.map jc)[k]? = some (jc j) := by rw [List.getElem?_map, hjk]; rfl
  refine doC_seq ?_
  refine doC_region ?_
  refine doL_v (opV_lss rfl rfl) rfl rfl rfl ?_
  refine doL_nil ?_
  refine post_then ?_
  refine doC_seq ?_
  refine doC_cond_t rfl (decide_eq_true (by omega)) ?_
  refine doC_skip ?_
  refine post_then ?_
  refine doC_seq ?_
  refine doC_block ?_
  refine doC_seq ?_
  refine doC_region ?_
  refine doL_v (opV_move rfl) rfl rfl rfl ?_
  refine doL_v (opV_assign rfl) rfl rfl rfl ?_
  refine doL_nil ?_
  refine post_then ?_
  refine doC_seq ?_
  refine doC_region ?_
  refine doL_v (opV_fieldAddr fa26_0 rfl) rfl rfl rfl ?_
  refine doL_v (opV_load1 2 ty23 rfl rfl rfl) rfl rfl rfl ?_
  refine doL_v (opV_move rfl) rfl rfl rfl ?_
  refine doL_v (opV_indexS (e := 84) (holds_base hS) (by kernel_rfl) rfl rfl rfl hj h2) rfl rfl rfl ?_
  refine doL_v (opV_fieldS (holds_base hS) hj fa84_0 rfl) rfl rfl rfl ?_
  refine doL_v (opV_loadS1 k 0 (holds_base hS) hj ty9 rfl rfl) rfl rfl rfl ?_
  refine doL_v (opV_move rfl) rfl rfl rfl ?_
  refine doL_v (opV_eqlS Tryz.underlying9 rfl rfl) rfl rfl rfl ?_
  refine doL_nil ?_
  refine post_then ?_
  refine doC_cond rfl (fun hc19 => ?_) (fun hc19 => ?_)
  ·
    have e : k = i := by
      rcases Nat.lt_or_ge k i with h | h
      · rw [hne k h j hjk] at hc19; cases hc19
      · omega
    refine doC_seq ?_
    refine doC_region ?_
    refine doL_v (opV_move rfl) rfl rfl rfl ?_
    refine doL_v (opV_assign rfl) rfl rfl rfl ?_
    refine doL_nil ?_
    refine post_then ?_
    refine doC_ret ?_
    refine post_block_ret ?_
    refine post_then_ret ?_
    refine post_then_ret ?_
    refine post_block_ret ?_
    refine post_then_ret ?_
    refine post_rets (rs := [.tmp 4]) rfl (resC (resIs_tmp rfl) (resN)) (congrArg (vI) (?_ : _ = (i : Int)))
    rw [e]
  ·
    have e : k ≠ i := fun e => by
      subst e
      obtain ⟨j2, h3, h4⟩ := hi
      rw [hjk] at h3; cases h3
      rw [h4] at hc19; cases hc19
    refine doC_skip ?_
    refine post_block_normal ?_
    refine post_then ?_
    refine doC_region ?_
    refine doL_v (opV_add rfl rfl (inc_nat (by omega))) rfl rfl rfl ?_
    refine doL_v (opV_move rfl) rfl rfl rfl ?_
    refine doL_nil ?_
    refine post_again (k + 1) (by show k + 1 ≤ i; omega) (by show n - (k + 1) < n - k; omega) rfl ?_ ?_ rfl
    repeat' first | exact trivial | exact True.intro | refine ⟨rfl, ?_⟩
end Go.Proofs.YtonampcmhhhffaaGreat
namespace Go.Proofs.YtonampcmhhhffaaGreat
open Go.Sx
theorem en116 : Enters Tryz.prog 116 := enters_of Tryz.func116 (by kernel_rfl) (by kernel_rfl)
theorem tLetter  (c : Int) (hc : 97 ≤ c ∧ c ≤ 122) (w : World) : Calls Tryz.prog 116 [.int .i32 c].toArray w (Rets (vB (true)) (w)) := by
  refine calls_of_doC (n := 9) Tryz.func116 rfl rfl rfl ?_
  refine doC_seq ?_
  refine doC_region ?_
  refine doL_v (opV_assign rfl) rfl rfl rfl ?_
  refine doL_nil ?_
  refine post_then ?_
  refine doC_seq ?_
  refine doC_region ?_
  refine doL_v (opV_move rfl) rfl rfl rfl ?_
  refine doL_v (opV_leq rfl rfl) rfl rfl rfl ?_
  refine doL_v (opV_move rfl) rfl rfl rfl ?_
  refine doL_true 5 rfl (decide_eq_true (by omega)) ?_
  refine doL_v (opV_move rfl) rfl rfl rfl ?_
  refine doL_v (opV_leq rfl rfl) rfl rfl rfl ?_
  refine doL_v (opV_pick_t rfl rfl rfl rfl) rfl rfl rfl ?_
  refine doL_v (opV_assign rfl) rfl rfl rfl ?_
  refine doL_nil ?_
  refine post_then ?_
  refine doC_ret ?_
  refine post_rets (rs := [.tmp 2]) rfl (resC (resIs_tmp rfl) (resN)) (congrArg (vB) (?_ : _ = true))
  exact decide_eq_true hc.2
theorem tName  (s : ByteArray) (c : Nat) (hsz : s.size = 1) (hd : Utf8.decode s 0 = (c, 1)) (hc : 97 ≤ c ∧ c ≤ 122) (hw : (s.toList == (ByteArray.mk #[119, 111, 114, 108, 100]).toList) = false) (w : World) : Calls Tryz.prog 99 [.string s].toArray w (Rets (vB (true)) (w)) := by
  refine calls_of_doC (n := 39) Tryz.func99 rfl rfl rfl ?_
  refine doC_seq ?_
  refine doC_region ?_
  refine doL_v (opV_assign rfl) rfl rfl rfl ?_
  refine doL_nil ?_
  refine post_then ?_
  refine doC_seq ?_
  refine doC_seq ?_
  refine doC_region ?_
  refine doL_v (opV_move rfl) rfl rfl rfl ?_
  refine doL_v (opV_lenStr Tryz.underlying9 rfl) rfl rfl rfl ?_
  refine doL_v (opV_eql rfl rfl) rfl rfl rfl ?_
  refine doL_v (opV_move rfl) rfl rfl rfl ?_
  refine doL_false 8 rfl (by rw [decide_eq_false_iff_not]; omega) ?_
  refine doL_v (opV_move rfl) rfl rfl rfl ?_
  refine doL_v (opV_lenStr Tryz.underlying9 rfl) rfl rfl rfl ?_
  refine doL_v (opV_gtr rfl rfl) rfl rfl rfl ?_
  refine doL_v (opV_pick_f rfl rfl rfl rfl) rfl rfl rfl ?_
  refine doL_v (opV_move rfl) rfl rfl rfl ?_
  refine doL_false 13 rfl (by rw [decide_eq_false_iff_not]; omega) ?_
  refine doL_v (opV_move rfl) rfl rfl rfl ?_
  refine doL_v (opV_eqlS Tryz.underlying9 rfl rfl) rfl rfl rfl ?_
  refine doL_v (opV_pick_f rfl rfl rfl rfl) rfl rfl rfl ?_
  refine doL_nil ?_
  refine post_then ?_
  refine doC_cond_f rfl (hw) ?_
  refine doC_skip ?_
  refine post_then ?_
  refine doC_seq ?_
  refine doC_seq ?_
  refine doC_region ?_
  refine doL_v (opV_move rfl) rfl rfl rfl ?_
  refine doL_range 18 Tryz.underlying9 rfl rfl rfl ?_; intro b18
  refine doL_nil ?_
  refine post_then ?_
  refine doC_block ?_
  refine doC_rounds 2 ?_
  refine doR_succ ?_
  refine doC_seq ?_
  refine doC_region ?_
  refine doL_nextS 18 rfl rfl (by omega) hd rfl rfl ?_ rfl; intro R19 hR19
  obtain rfl := Option.some.inj hR19
  refine doL_v (opV_extract rfl rfl) rfl rfl rfl ?_
  refine doL_nil ?_
  refine post_then ?_
  refine doC_seq ?_
  refine doC_cond_t rfl (rfl) ?_
  refine doC_skip ?_
  refine post_then ?_
  refine doC_block ?_
  refine doC_seq ?_
  refine doC_region ?_
  refine doL_v (opV_extract rfl rfl) rfl rfl rfl ?_
  refine doL_v (opV_extract rfl rfl) rfl rfl rfl ?_
  refine doL_v (opV_assign rfl) rfl rfl rfl ?_
  refine doL_v (opV_assign rfl) rfl rfl rfl ?_
  refine doL_nil ?_
  refine post_then ?_
  refine doC_seq ?_
  refine doC_region ?_
  refine doL_v (opV_move rfl) rfl rfl rfl ?_
  refine doL_vg (F := vB) (opV_call en116 rfl (fun w _ => tLetter _ (by omega) w)) rfl rfl rfl ?_; intro r24 hr24
  refine doL_v (opV_not rfl) rfl rfl rfl ?_
  refine doL_v (opV_move rfl) rfl rfl rfl ?_
  refine doL_false 26 rfl (by rw [hr24]; rfl) ?_
  refine doL_skip rfl rfl rfl ?_
  refine doL_skip rfl rfl rfl ?_
  refine doL_skip rfl rfl rfl ?_
  refine doL_dead rfl rfl rfl ?_
  refine doL_dead rfl rfl rfl ?_
  refine doL_dead rfl rfl rfl ?_
  refine doL_dead rfl rfl rfl ?_
  refine doL_dead rfl rfl rfl ?_
  refine doL_dead rfl rfl rfl ?_
  refine doL_dead rfl rfl rfl ?_
  refine doL_skip rfl rfl rfl ?_
  refine doL_v (opV_pick_f rfl rfl rfl rfl) rfl rfl rfl ?_
  refine doL_nil ?_
  refine post_then ?_
  refine doC_cond_f rfl (rfl) ?_
  refine doC_skip ?_
  refine post_block_normal ?_
  refine post_rounds ?_
  refine doR_succ ?_
  refine doC_seq ?_
  refine doC_region ?_
  refine doL_v (opV_nextE 18 rfl rfl (by omega)) rfl rfl rfl ?_
  refine doL_v (opV_extract rfl rfl) rfl rfl rfl ?_
  refine doL_nil ?_
  refine post_then ?_
  refine doC_seq ?_
  refine doC_cond_f rfl (rfl) ?_
  refine doC_exit ?_
  refine post_then_exit ?_
  refine post_then_exit ?_
  refine post_block_exit ?_
  refine post_then ?_
  refine doC_seq ?_
  refine doC_region ?_
  refine doL_v (opV_assign rfl) rfl rfl rfl ?_
  refine doL_nil ?_
  refine post_then ?_
  refine doC_ret ?_
  refine post_rets (rs := [.tmp 2]) rfl (resC (resIs_tmp rfl) (resN)) (congrArg (vB) (?_ : _ = true))
  rfl
end Go.Proofs.YtonampcmhhhffaaGreat
namespace Go.Proofs.YtonampcmhhhffaaGreat
open Go.Sx
theorem en99 : Enters Tryz.prog 99 := enters_of Tryz.func99 (by kernel_rfl) (by kernel_rfl)
theorem en100 : Enters Tryz.prog 100 := enters_of Tryz.func100 (by kernel_rfl) (by kernel_rfl)
theorem en101 : Enters Tryz.prog 101 := enters_of Tryz.func101 (by kernel_rfl) (by kernel_rfl)
theorem en102 : Enters Tryz.prog 102 := enters_of Tryz.func102 (by kernel_rfl) (by kernel_rfl)
theorem fa84_6 : fieldB Tryz.prog 84 6 8 = true := by kernel_rfl
theorem en103 : Enters Tryz.prog 103 := enters_of Tryz.func103 (by kernel_rfl) (by kernel_rfl)
theorem fa84_7 : fieldB Tryz.prog 84 7 9 = true := by kernel_rfl
theorem fa84_8 : fieldB Tryz.prog 84 8 10 = true := by kernel_rfl
theorem fa84_9 : fieldB Tryz.prog 84 9 11 = true := by kernel_rfl
theorem limK_b (k : Int) : 0 ≤ limK k ∧ limK k ≤ 4194304 := by
  unfold limK; split <;> (try split) <;> omega
theorem cJoint  (aj am : Option Addr) (cj nm cm n i : Nat) (js : List J) (j : J) (c : Nat) (hn : n ≤ 1000) (hjn : js.length = n) (hin : i < n) (hjk : js[i]? = some j) (hne : ∀ (k : Nat), k < i → ∀ (j2 : J), js[k]? = some j2 → (j2.name.toList == j.name.toList) = false) (hsz : j.name.size = 1) (hd : Utf8.decode j.name 0 = (c, 1)) (hc : 97 ≤ c ∧ c ≤ 122) (hw : (j.name.toList == (ByteArray.mk #[119, 111, 114, 108, 100]).toList) = false) (hkd : 0 ≤ j.kind ∧ j.kind ≤ 6) (hpa : -1 ≤ j.parent ∧ j.parent < i) (h0 : -4194304 ≤ j.off.x ∧ j.off.x ≤ 4194304) (h1 : -4194304 ≤ j.off.y ∧ j.off.y ≤ 4194304) (h2 : -4194304 ≤ j.off.z ∧ j.off.z ≤ 4194304) (hlh : j.lo ≤ j.hi ∧ -limK j.kind ≤ j.lo ∧ j.hi ≤ limK j.kind) (hwe : 1 ≤ j.weight ∧ j.weight ≤ 1024) (hsp : 1 ≤ j.speed ∧ j.speed ≤ 1048576) (hac : 1 ≤ j.accel ∧ j.accel ≤ 1048576) (htq : 1 ≤ j.torque ∧ j.torque ≤ 1099511627776) (w : World) (hS : SlcIs 12 aj (js.map jc) w) : Calls Tryz.prog 75 [.agg #[.slice aj n cj, .slice am nm cm], .int .i64 (i : Int)].toArray w (Rets (vI ((0 : Int))) (w)) := by
  refine calls_of_doC (n := 91) Tryz.func75 rfl rfl rfl ?_
  refine doC_seq ?_
  refine doC_region ?_
  refine doL_box 2 rfl rfl rfl rfl ?_; intro b2
  refine doL_v (opV_assign rfl) rfl rfl rfl ?_
  refine doL_nil ?_
  refine post_then ?_
  refine doC_seq ?_
  have hj : (js.map jc)[i]? = some (jc j) := by rw [List.getElem?_map, hjk]; rfl
  have hL := limK_b j.kind
  refine doC_region ?_
  refine doL_v (opV_fieldAddr fa26_0 rfl) rfl rfl rfl ?_
  refine doL_v (opV_load1 2 ty23 rfl rfl rfl) rfl rfl rfl ?_
  refine doL_v (opV_move rfl) rfl rfl rfl ?_
  refine doL_v (opV_indexS (e := 84) (holds_base hS) (by kernel_rfl) rfl rfl rfl hj hin) rfl rfl rfl ?_
  refine doL_v (opV_loadSA (vs := [.string j.name, .int .i64 j.kind, .int .i64 j.parent, .int .i64 j.off.x, .int .i64 j.off.y, .int .i64 j.off.z, .int .i64 j.lo, .int .i64 j.hi, .int .i64 j.weight, .int .i64 j.speed, .int .i64 j.accel, .int .i64 j.torque]) i 0 (holds_base hS) hj ty84 rfl rfl) rfl rfl rfl ?_
  refine doL_alloc 5 ze84 rfl rfl rfl ?_; intro b5
  refine doL_store 5 ty84 rfl rfl rfl rfl rfl rfl rfl rfl ?_
  refine doL_nil ?_
  refine post_then ?_
  refine doC_seq ?_
  refine doC_block ?_
  refine doC_seq ?_
  refine doC_region ?_
  refine doL_v (opV_fieldAddr fa84_0 rfl) rfl rfl rfl ?_
  refine doL_v (opV_load1 5 ty9 rfl rfl rfl) rfl rfl rfl ?_
  refine doL_vg (F := vB) (opV_call en99 rfl (fun w _ => tName _ c hsz hd hc hw w)) rfl rfl rfl ?_; intro r15 hr15
  refine doL_v (opV_not rfl) rfl rfl rfl ?_
  refine doL_v (opV_move rfl) rfl rfl rfl ?_
  refine doL_false 17 rfl (by rw [hr15]; rfl) ?_
  refine doL_v (opV_loadA 2 ty26 rfl rfl rfl) rfl rfl rfl ?_
  refine doL_v (opV_fieldAddr fa84_0 rfl) rfl rfl rfl ?_
  refine doL_v (opV_load1 5 ty9 rfl rfl rfl) rfl rfl rfl ?_
  refine doL_vg (F := vI) (opV_call en100 rfl (fun w' k => cFind aj am cj nm cm n i js j.name hn hjn hin hne ⟨j, hjk, by simp⟩ w' (slc_grow hS k.grow))) rfl rfl rfl ?_; intro r21 hr21
  refine doL_v (opV_move rfl) rfl rfl rfl ?_
  refine doL_v (opV_neq rfl rfl) rfl rfl rfl ?_
  refine doL_v (opV_pick_f rfl rfl rfl rfl) rfl rfl rfl ?_
  refine doL_v (opV_assign rfl) rfl rfl rfl ?_
  refine doL_nil ?_
  refine post_then ?_
  refine doC_cond_f rfl (by rw [hr21]; simp) ?_
  refine doC_seq ?_
  refine doC_region ?_
  refine doL_v (opV_fieldAddr fa84_1 rfl) rfl rfl rfl ?_
  refine doL_v (opV_load1 5 ty3 rfl rfl rfl) rfl rfl rfl ?_
  refine doL_v (opV_lss rfl rfl) rfl rfl rfl ?_
  refine doL_v (opV_move rfl) rfl rfl rfl ?_
  refine doL_false 29 rfl (by rw [decide_eq_false_iff_not]; omega) ?_
  refine doL_v (opV_fieldAddr fa84_1 rfl) rfl rfl rfl ?_
  refine doL_v (opV_load1 5 ty3 rfl rfl rfl) rfl rfl rfl ?_
  refine doL_v (opV_gtr rfl rfl) rfl rfl rfl ?_
  refine doL_v (opV_pick_f rfl rfl rfl rfl) rfl rfl rfl ?_
  refine doL_v (opV_assign rfl) rfl rfl rfl ?_
  refine doL_nil ?_
  refine post_then ?_
  refine doC_cond_f rfl (by rw [decide_eq_false_iff_not]; omega) ?_
  refine doC_seq ?_
  refine doC_region ?_
  refine doL_v (opV_fieldAddr fa84_2 rfl) rfl rfl rfl ?_
  refine doL_v (opV_load1 5 ty3 rfl rfl rfl) rfl rfl rfl ?_
  refine doL_v (opV_lss rfl rfl) rfl rfl rfl ?_
  refine doL_v (opV_move rfl) rfl rfl rfl ?_
  refine doL_false 38 rfl (by rw [decide_eq_false_iff_not]; omega) ?_
  refine doL_v (opV_fieldAddr fa84_2 rfl) rfl rfl rfl ?_
  refine doL_v (opV_load1 5 ty3 rfl rfl rfl) rfl rfl rfl ?_
  refine doL_v (opV_move rfl) rfl rfl rfl ?_
  refine doL_v (opV_geq rfl rfl) rfl rfl rfl ?_
  refine doL_v (opV_pick_f rfl rfl rfl rfl) rfl rfl rfl ?_
  refine doL_v (opV_assign rfl) rfl rfl rfl ?_
  refine doL_nil ?_
  refine post_then ?_
  refine doC_cond_f rfl (by rw [decide_eq_false_iff_not]; omega) ?_
  refine doC_seq ?_
  refine doC_region ?_
  refine doL_v (opV_fieldAddr fa84_3 rfl) rfl rfl rfl ?_
  refine doL_v (opV_loadA 5 ty50 rfl rfl rfl) rfl rfl rfl ?_
  refine doL_vg (F := vB) (opV_call en101 rfl (fun w _ => cBeyond _ _ _ h0 h1 h2 w)) rfl rfl rfl ?_; intro r47 hr47
  refine doL_v (opV_assign rfl) rfl rfl rfl ?_
  refine doL_nil ?_
  refine post_then ?_
  refine doC_cond_f rfl (hr47) ?_
  refine doC_skip ?_
  refine post_block_normal ?_
  refine post_then ?_
  refine doC_seq ?_
  refine doC_region ?_
  refine doL_v (opV_fieldAddr fa84_1 rfl) rfl rfl rfl ?_
  refine doL_v (opV_load1 5 ty3 rfl rfl rfl) rfl rfl rfl ?_
  refine doL_vg (F := vI) (opV_call en102 rfl (fun w _ => cLimit _  w)) rfl rfl rfl ?_; intro r50 hr50
  subst hr50
  refine doL_v (opV_assign rfl) rfl rfl rfl ?_
  refine doL_nil ?_
  refine post_then ?_
  refine doC_seq ?_
  refine doC_seq ?_
  refine doC_region ?_
  refine doL_v (opV_fieldAddr fa84_4 rfl) rfl rfl rfl ?_
  refine doL_v (opV_load1 5 ty2 rfl rfl rfl) rfl rfl rfl ?_
  refine doL_v (opV_fieldAddr fa84_5 rfl) rfl rfl rfl ?_
  refine doL_v (opV_load1 5 ty2 rfl rfl rfl) rfl rfl rfl ?_
  refine doL_v (opV_gtr rfl rfl) rfl rfl rfl ?_
  refine doL_v (opV_move rfl) rfl rfl rfl ?_
  refine doL_false 56 rfl (by rw [decide_eq_false_iff_not]; omega) ?_
  refine doL_v (opV_fieldAddr fa84_4 rfl) rfl rfl rfl ?_
  refine doL_v (opV_load1 5 ty2 rfl rfl rfl) rfl rfl rfl ?_
  refine doL_v (opV_move rfl) rfl rfl rfl ?_
  refine doL_v (opV_neg rfl (by first | exact neg_in ⟨by omega, by omega⟩ | rfl)) rfl rfl rfl ?_
  refine doL_v (opV_lss rfl rfl) rfl rfl rfl ?_
  refine doL_v (opV_pick_f rfl rfl rfl rfl) rfl rfl rfl ?_
  refine doL_v (opV_move rfl) rfl rfl rfl ?_
  refine doL_false 63 rfl (by rw [decide_eq_false_iff_not]; omega) ?_
  refine doL_v (opV_fieldAddr fa84_5 rfl) rfl rfl rfl ?_
  refine doL_v (opV_load1 5 ty2 rfl rfl rfl) rfl rfl rfl ?_
  refine doL_v (opV_move rfl) rfl rfl rfl ?_
  refine doL_v (opV_gtr rfl rfl) rfl rfl rfl ?_
  refine doL_v (opV_pick_f rfl rfl rfl rfl) rfl rfl rfl ?_
  refine doL_nil ?_
  refine post_then ?_
  refine doC_cond_f rfl (by rw [decide_eq_false_iff_not]; omega) ?_
  refine doC_skip ?_
  refine post_then ?_
  refine doC_seq ?_
  refine doC_seq ?_
  refine doC_region ?_
  refine doL_v (opV_fieldAddr fa84_6 rfl) rfl rfl rfl ?_
  refine doL_v (opV_load1 5 ty2 rfl rfl rfl) rfl rfl rfl ?_
  refine doL_vg (F := vB) (opV_call en103 rfl (fun w _ => cFrom1 _ _  w)) rfl rfl rfl ?_; intro r71 hr71
  refine doL_v (opV_not rfl) rfl rfl rfl ?_
  refine doL_v (opV_move rfl) rfl rfl rfl ?_
  refine doL_false 73 rfl (by rw [hr71]; simp; omega) ?_
  refine doL_v (opV_fieldAddr fa84_7 rfl) rfl rfl rfl ?_
  refine doL_v (opV_load1 5 ty2 rfl rfl rfl) rfl rfl rfl ?_
  refine doL_vg (F := vB) (opV_call en103 rfl (fun w _ => cFrom1 _ _  w)) rfl rfl rfl ?_; intro r76 hr76
  refine doL_v (opV_not rfl) rfl rfl rfl ?_
  refine doL_v (opV_pick_f rfl rfl rfl rfl) rfl rfl rfl ?_
  refine doL_v (opV_move rfl) rfl rfl rfl ?_
  refine doL_false 79 rfl (by rw [hr76]; simp; omega) ?_
  refine doL_v (opV_fieldAddr fa84_8 rfl) rfl rfl rfl ?_
  refine doL_v (opV_load1 5 ty2 rfl rfl rfl) rfl rfl rfl ?_
  refine doL_vg (F := vB) (opV_call en103 rfl (fun w _ => cFrom1 _ _  w)) rfl rfl rfl ?_; intro r82 hr82
  refine doL_v (opV_not rfl) rfl rfl rfl ?_
  refine doL_v (opV_pick_f rfl rfl rfl rfl) rfl rfl rfl ?_
  refine doL_v (opV_move rfl) rfl rfl rfl ?_
  refine doL_false 85 rfl (by rw [hr82]; simp; omega) ?_
  refine doL_v (opV_fieldAddr fa84_9 rfl) rfl rfl rfl ?_
  refine doL_v (opV_load1 5 ty2 rfl rfl rfl) rfl rfl rfl ?_
  refine doL_vg (F := vB) (opV_call en103 rfl (fun w _ => cFrom1 _ _  w)) rfl rfl rfl ?_; intro r88 hr88
  refine doL_v (opV_not rfl) rfl rfl rfl ?_
  refine doL_v (opV_pick_f rfl rfl rfl rfl) rfl rfl rfl ?_
  refine doL_nil ?_
  refine post_then ?_
  refine doC_cond_f rfl (by rw [hr88]; simp; omega) ?_
  refine doC_skip ?_
  refine post_then ?_
  refine doC_seq ?_
  refine doC_region ?_
  refine doL_v (opV_assign rfl) rfl rfl rfl ?_
  refine doL_nil ?_
  refine post_then ?_
  refine doC_ret ?_
  refine post_rets (rs := [.tmp 4]) rfl (resC (resIs_tmp rfl) (resN)) (congrArg (vI) (?_ : _ = (0 : Int)))
  rfl
end Go.Proofs.YtonampcmhhhffaaGreat
namespace Go.Proofs.YtonampcmhhhffaaGreat
open Go.Sx
theorem fa101_0 : fieldB Tryz.prog 101 0 0 = true := by kernel_rfl
theorem fa101_1 : fieldB Tryz.prog 101 1 1 = true := by kernel_rfl
theorem fa101_2 : fieldB Tryz.prog 101 2 2 = true := by kernel_rfl
theorem ty101 : tyB Tryz.prog 101 true 5 = true := by kernel_rfl
theorem en78 : Enters Tryz.prog 78 := enters_of Tryz.func78 (by kernel_rfl) (by kernel_rfl)
theorem en104 : Enters Tryz.prog 104 := enters_of Tryz.func104 (by kernel_rfl) (by kernel_rfl)
theorem cMass  (aj am : Option Addr) (cj nm cm n : Nat) (lk ms px py pz : Int) (hlk : 0 ≤ lk ∧ lk < n) (hms : 1 ≤ ms ∧ ms ≤ 65536) (h0 : -4194304 ≤ px ∧ px ≤ 4194304) (h1 : -4194304 ≤ py ∧ py ≤ 4194304) (h2 : -4194304 ≤ pz ∧ pz ≤ 4194304) (w : World) : Calls Tryz.prog 78 [.agg #[.slice aj n cj, .slice am nm cm], .agg #[.int .i64 lk, .int .i64 ms, .int .i64 px, .int .i64 py, .int .i64 pz]].toArray w (Rets (vB (true)) (w)) := by
  refine calls_of_doC (n := 27) Tryz.func78 rfl rfl rfl ?_
  refine doC_seq ?_
  refine doC_region ?_
  refine doL_box 2 rfl rfl rfl rfl ?_; intro b2
  refine doL_box 3 rfl rfl rfl rfl ?_; intro b3
  refine doL_v (opV_assign rfl) rfl rfl rfl ?_
  refine doL_nil ?_
  refine post_then ?_
  refine doC_seq ?_
  refine doC_region ?_
  refine doL_v (opV_fieldAddr fa101_0 rfl) rfl rfl rfl ?_
  refine doL_v (opV_load1 3 ty3 rfl rfl rfl) rfl rfl rfl ?_
  refine doL_v (opV_leq rfl rfl) rfl rfl rfl ?_
  refine doL_v (opV_move rfl) rfl rfl rfl ?_
  refine doL_true 8 rfl (decide_eq_true (by omega)) ?_
  refine doL_v (opV_fieldAddr fa101_0 rfl) rfl rfl rfl ?_
  refine doL_v (opV_load1 3 ty3 rfl rfl rfl) rfl rfl rfl ?_
  refine doL_v (opV_fieldAddr fa26_0 rfl) rfl rfl rfl ?_
  refine doL_v (opV_load1 2 ty23 rfl rfl rfl) rfl rfl rfl ?_
  refine doL_v (opV_len_slice sl23 rfl) rfl rfl rfl ?_
  refine doL_v (opV_lss rfl rfl) rfl rfl rfl ?_
  refine doL_v (opV_pick_t rfl rfl rfl rfl) rfl rfl rfl ?_
  refine doL_v (opV_move rfl) rfl rfl rfl ?_
  refine doL_true 16 rfl (decide_eq_true (by omega)) ?_
  refine doL_v (opV_fieldAddr fa101_1 rfl) rfl rfl rfl ?_
  refine doL_v (opV_load1 3 ty2 rfl rfl rfl) rfl rfl rfl ?_
  refine doL_vg (F := vB) (opV_call en103 rfl (fun w _ => cFrom1 _ _  w)) rfl rfl rfl ?_; intro r19 hr19
  refine doL_v (opV_pick_t rfl rfl rfl rfl) rfl rfl rfl ?_
  refine doL_v (opV_move rfl) rfl rfl rfl ?_
  refine doL_true 21 rfl (by rw [hr19]; simp; omega) ?_
  refine doL_v (opV_fieldAddr fa101_2 rfl) rfl rfl rfl ?_
  refine doL_v (opV_loadA 3 ty50 rfl rfl rfl) rfl rfl rfl ?_
  refine doL_vg (F := vB) (opV_call en101 rfl (fun w _ => cBeyond _ _ _ h0 h1 h2 w)) rfl rfl rfl ?_; intro r24 hr24
  refine doL_v (opV_not rfl) rfl rfl rfl ?_
  refine doL_v (opV_pick_t rfl rfl rfl rfl) rfl rfl rfl ?_
  refine doL_v (opV_assign rfl) rfl rfl rfl ?_
  refine doL_nil ?_
  refine post_then ?_
  refine doC_ret ?_
  refine post_rets (rs := [.tmp 4]) rfl (resC (resIs_tmp rfl) (resN)) (congrArg (vB) (?_ : _ = true))
  rw [hr24]; rfl
theorem en_mq : Enters Tryz.prog 77 := enters_of Tryz.func77 (by kernel_rfl) (by kernel_rfl)
theorem cMass1  (aj am : Option Addr) (cj nm cm n b : Nat) (lk ms px py pz : Int) (hlk : 0 ≤ lk ∧ lk < n) (hms : 1 ≤ ms ∧ ms ≤ 65536) (h0 : -4194304 ≤ px ∧ px ≤ 4194304) (h1 : -4194304 ≤ py ∧ py ≤ 4194304) (h2 : -4194304 ≤ pz ∧ pz ≤ 4194304) (w : World) (hb : w.heap[b]? = some (.cells [.slice aj n cj, .slice am nm cm].toArray 26)) : Calls Tryz.prog 77 [.agg #[.int .i64 lk, .int .i64 ms, .int .i64 px, .int .i64 py, .int .i64 pz], .pointer (some ⟨b, 0, none⟩)].toArray w (Rets (vB (false)) (w)) := by
  refine calls_of_doC (n := 8) Tryz.func77 rfl rfl rfl ?_
  refine doC_seq ?_
  refine doC_region ?_
  refine doL_box 2 rfl rfl rfl rfl ?_; intro b2
  refine doL_v (opV_assign rfl) rfl rfl rfl ?_
  refine doL_nil ?_
  refine post_then ?_
  refine doC_seq ?_
  refine doC_region ?_
  refine doL_v (opV_loadA_blk hb ty26 rfl rfl) rfl rfl rfl ?_
  refine doL_v (opV_loadA 2 ty101 rfl rfl rfl) rfl rfl rfl ?_
  refine doL_vg (F := vB) (opV_call en78 rfl (fun w _ => cMass _ _ _ _ _ _ _ _ _ _ _ hlk hms h0 h1 h2 w)) rfl rfl rfl ?_; intro r6 hr6
  refine doL_v (opV_not rfl) rfl rfl rfl ?_
  refine doL_v (opV_assign rfl) rfl rfl rfl ?_
  refine doL_nil ?_
  refine post_then ?_
  refine doC_ret ?_
  refine post_rets (rs := [.tmp 3]) rfl (resC (resIs_tmp rfl) (resN)) (congrArg (vB) (?_ : _ = false))
  rw [hr6]; rfl
def MB (n : Nat) (m : Ms) : Prop := (0 ≤ m.link ∧ m.link < n) ∧ (1 ≤ m.mass ∧ m.mass ≤ 65536) ∧ (-4194304 ≤ m.p.x ∧ m.p.x ≤ 4194304) ∧ (-4194304 ≤ m.p.y ∧ m.p.y ≤ 4194304) ∧ (-4194304 ≤ m.p.z ∧ m.p.z ≤ 4194304)
theorem ixMs  (aj am : Option Addr) (cj nm cm n b : Nat) (l : List Ms) (hn : nm ≤ 1000) (hbn : l.length = nm) (hv : ∀ m ∈ l, MB n m) (w : World) (hT : SlcIs 5 am (l.map mc) w) (hb : w.heap[b]? = some (.cells [.slice aj n cj, .slice am nm cm].toArray 26)) : Calls Tryz.prog 104 [.slice am nm cm, .func (.func 77) #[] #[.pointer (some ⟨b, 0, none⟩)]].toArray w (Rets (vI (-1)) (w)) := by
  refine calls_of_doC (n := 19) Tryz.func104 rfl rfl rfl ?_
  refine doC_seq ?_
  refine doC_region ?_
  refine doL_v (opV_assign rfl) rfl rfl rfl ?_
  refine doL_nil ?_
  refine post_then ?_
  refine doC_seq ?_
  refine doC_seq ?_
  refine doC_region ?_
  refine doL_v (opV_move rfl) rfl rfl rfl ?_
  refine doL_v (opV_len_slice sl24 rfl) rfl rfl rfl ?_
  refine doL_v (opV_move rfl) rfl rfl rfl ?_
  refine doL_nil ?_
  refine post_then ?_
  refine doC_block ?_
  refine doC_loopK [0, 1, 7] [] (α := Nat) (fun x => nm - x) (fun x => x ≤ nm) (fun _ => ⟨w, []⟩) (fun x => [(8, .int .i64 (x : Int))]) (fun _ => []) 0 rfl rfl ?_ ?_ ?_ ?_ rfl ?_
  ·
    exact Nat.zero_le _
  ·
    exact rfl
  ·
    repeat' first | exact trivial | exact True.intro | refine ⟨rfl, ?_⟩
  ·
    repeat' first | exact trivial | exact True.intro | refine ⟨rfl, ?_⟩
  rintro k hk
  try dsimp only at hk ⊢
  refine doC_seq ?_
  refine doC_region ?_
  refine doL_v (opV_lss rfl rfl) rfl rfl rfl ?_
  refine doL_nil ?_
  refine post_then ?_
  refine doC_seq ?_
  refine doC_cond rfl (fun hc9 => ?_) (fun hc9 => ?_)
  ·
    have h2 : k < nm := by have := of_decide_eq_true hc9; omega
    obtain ⟨m, hak⟩ : ∃ m, l[k]? = some m := ⟨_, List.getElem?_eq_getElem (by omega)⟩
    have ha : (l.map mc)[k]? = some (mc m) := by rw [List.getElem?_map, hak]; rfl
    obtain ⟨m1, m2, m3, m4, m5⟩ := hv m (List.mem_of_getElem? hak)
    refine doC_skip ?_
    refine post_then ?_
    refine doC_seq ?_
    refine doC_block ?_
    refine doC_seq ?_
    refine doC_region ?_
    refine doL_v (opV_move rfl) rfl rfl rfl ?_
    refine doL_v (opV_assign rfl) rfl rfl rfl ?_
    refine doL_nil ?_
    refine post_then ?_
    refine doC_seq ?_
    refine doC_region ?_
    refine doL_v (opV_move rfl) rfl rfl rfl ?_
    refine doL_v (opV_move rfl) rfl rfl rfl ?_
    refine doL_v (opV_move rfl) rfl rfl rfl ?_
    refine doL_v (opV_indexS (e := 101) (holds_base hT) (by kernel_rfl) rfl rfl rfl ha h2) rfl rfl rfl ?_
    refine doL_v (opV_loadSA (vs := mc m) k 0 (holds_base hT) ha ty101 rfl rfl) rfl rfl rfl ?_
    refine doL_vg (F := vB) (opV_callV en_mq rfl rfl rfl (fun w' k' => cMass1 aj am cj nm cm n b _ _ _ _ _ m1 m2 m3 m4 m5 w' (by rw [k'.grow.block b (heap_lt hb)]; exact hb))) rfl rfl rfl ?_; intro r16 hr16
    refine doL_nil ?_
    refine post_then ?_
    refine doC_cond_f rfl (hr16) ?_
    refine doC_skip ?_
    refine post_block_normal ?_
    refine post_then ?_
    refine doC_region ?_
    refine doL_v (opV_add rfl rfl (inc_nat (by omega))) rfl rfl rfl ?_
    refine doL_v (opV_move rfl) rfl rfl rfl ?_
    refine doL_nil ?_
    refine post_again (k + 1) (by show k + 1 ≤ nm; omega) (by show nm - (k + 1) < nm - k; omega) rfl ?_ ?_ rfl
    repeat' first | exact trivial | exact True.intro | refine ⟨rfl, ?_⟩
  ·
    refine doC_exit ?_
    refine post_then_exit ?_
    refine post_then_exit ?_
    refine post_block_exit ?_
    refine post_then ?_
    refine doC_seq ?_
    refine doC_region ?_
    refine doL_v (opV_assign rfl) rfl rfl rfl ?_
    refine doL_nil ?_
    refine post_then ?_
    refine doC_ret ?_
    refine post_rets (rs := [.tmp 4]) rfl (resC (resIs_tmp rfl) (resN)) (congrArg (vI) (?_ : _ = -1))
    rfl
theorem hasMs  (aj am : Option Addr) (cj nm cm n b : Nat) (l : List Ms) (hn : nm ≤ 1000) (hbn : l.length = nm) (hv : ∀ m ∈ l, MB n m) (w : World) (hT : SlcIs 5 am (l.map mc) w) (hb : w.heap[b]? = some (.cells [.slice aj n cj, .slice am nm cm].toArray 26)) : Calls Tryz.prog 76 [.slice am nm cm, .func (.func 77) #[] #[.pointer (some ⟨b, 0, none⟩)]].toArray w (Rets (vB (false)) (w)) := by
  refine calls_of_doC (n := 9) Tryz.func76 rfl rfl rfl ?_
  refine doC_seq ?_
  refine doC_region ?_
  refine doL_v (opV_assign rfl) rfl rfl rfl ?_
  refine doL_nil ?_
  refine post_then ?_
  refine doC_seq ?_
  refine doC_region ?_
  refine doL_v (opV_move rfl) rfl rfl rfl ?_
  refine doL_v (opV_move rfl) rfl rfl rfl ?_
  refine doL_vg (F := vI) (opV_call en104 rfl (fun w' k => ixMs aj am cj nm cm n b l hn hbn hv w' (slc_grow hT k.grow) (by rw [k.grow.block b (heap_lt hb)]; exact hb))) rfl rfl rfl ?_; intro r7 hr7
  refine doL_v (opV_geq rfl rfl) rfl rfl rfl ?_
  refine doL_v (opV_assign rfl) rfl rfl rfl ?_
  refine doL_nil ?_
  refine post_then ?_
  refine doC_ret ?_
  refine post_rets (rs := [.tmp 4]) rfl (resC (resIs_tmp rfl) (resN)) (congrArg (vB) (?_ : _ = false))
  rw [hr7]; rfl
end Go.Proofs.YtonampcmhhhffaaGreat
namespace Go.Proofs.YtonampcmhhhffaaGreat
open Go.Sx
theorem en75 : Enters Tryz.prog 75 := enters_of Tryz.func75 (by kernel_rfl) (by kernel_rfl)
theorem en76 : Enters Tryz.prog 76 := enters_of Tryz.func76 (by kernel_rfl) (by kernel_rfl)
def JOK (js : List J) (i : Nat) (j : J) : Prop := ∃ c : Nat, (∀ (k : Nat), k < i → ∀ (j2 : J), js[k]? = some j2 → (j2.name.toList == j.name.toList) = false) ∧ j.name.size = 1 ∧ Utf8.decode j.name 0 = (c, 1) ∧ (97 ≤ c ∧ c ≤ 122) ∧ (j.name.toList == (ByteArray.mk #[119, 111, 114, 108, 100]).toList) = false ∧
    (0 ≤ j.kind ∧ j.kind ≤ 6) ∧ (-1 ≤ j.parent ∧ j.parent < i) ∧ (-4194304 ≤ j.off.x ∧ j.off.x ≤ 4194304) ∧ (-4194304 ≤ j.off.y ∧ j.off.y ≤ 4194304) ∧ (-4194304 ≤ j.off.z ∧ j.off.z ≤ 4194304) ∧ (j.lo ≤ j.hi ∧ -limK j.kind ≤ j.lo ∧ j.hi ≤ limK j.kind) ∧
    (1 ≤ j.weight ∧ j.weight ≤ 1024) ∧ (1 ≤ j.speed ∧ j.speed ≤ 1048576) ∧ (1 ≤ j.accel ∧ j.accel ≤ 1048576) ∧ (1 ≤ j.torque ∧ j.torque ≤ 1099511627776)
theorem cJok (aj am : Option Addr) (cj nm cm n i : Nat) (js : List J) (j : J) (hn : n ≤ 1000) (hjn : js.length = n) (hin : i < n) (hjk : js[i]? = some j) (h : JOK js i j) (w : World) (hS : SlcIs 12 aj (js.map jc) w) :
    Calls Tryz.prog 75 [.agg #[.slice aj n cj, .slice am nm cm], .int .i64 (i : Int)].toArray w (Rets (vI (0 : Int)) w) := by
  obtain ⟨c, a1, a2, a3, a4, a5, a6, a7, a8, a9, a10, a11, a12, a13, a14, a15⟩ := h
  exact cJoint aj am cj nm cm n i js j c hn hjn hin hjk a1 a2 a3 a4 a5 a6 a7 a8 a9 a10 a11 a12 a13 a14 a15 w hS
theorem cCheck  (aj am : Option Addr) (cj nm cm n : Nat) (js : List J) (l : List Ms) (hn : 1 ≤ n ∧ n ≤ 10) (hm : nm ≤ 32) (hjn : js.length = n) (hln : l.length = nm) (hJ : ∀ (i : Nat) (j : J), js[i]? = some j → JOK js i j) (hv : ∀ m ∈ l, MB n m) (w : World) (hS : SlcIs 12 aj (js.map jc) w) (hT : SlcIs 5 am (l.map mc) w) : Calls Tryz.prog 45 [.agg #[.slice aj n cj, .slice am nm cm]].toArray w (Rets (vI ((0 : Int))) (w)) := by
  refine calls_of_doC (n := 38) Tryz.func45 rfl rfl rfl ?_
  refine doC_seq ?_
  refine doC_region ?_
  refine doL_box 1 rfl rfl rfl rfl ?_; intro b1
  refine doL_v (opV_assign rfl) rfl rfl rfl ?_
  refine doL_nil ?_
  refine post_then ?_
  refine doC_seq ?_
  refine doC_seq ?_
  refine doC_region ?_
  refine doL_v (opV_fieldAddr fa26_0 rfl) rfl rfl rfl ?_
  refine doL_v (opV_load1 1 ty23 rfl rfl rfl) rfl rfl rfl ?_
  refine doL_v (opV_len_slice sl23 rfl) rfl rfl rfl ?_
  refine doL_v (opV_eql rfl rfl) rfl rfl rfl ?_
  refine doL_v (opV_move rfl) rfl rfl rfl ?_
  refine doL_false 9 rfl (by rw [decide_eq_false_iff_not]; omega) ?_
  refine doL_v (opV_fieldAddr fa26_0 rfl) rfl rfl rfl ?_
  refine doL_v (opV_load1 1 ty23 rfl rfl rfl) rfl rfl rfl ?_
  refine doL_v (opV_len_slice sl23 rfl) rfl rfl rfl ?_
  refine doL_v (opV_gtr rfl rfl) rfl rfl rfl ?_
  refine doL_v (opV_pick_f rfl rfl rfl rfl) rfl rfl rfl ?_
  refine doL_nil ?_
  refine post_then ?_
  refine doC_cond_f rfl (by rw [decide_eq_false_iff_not]; omega) ?_
  refine doC_skip ?_
  refine post_then ?_
  refine doC_seq ?_
  refine doC_seq ?_
  refine doC_region ?_
  refine doL_v (opV_fieldAddr fa26_0 rfl) rfl rfl rfl ?_
  refine doL_v (opV_load1 1 ty23 rfl rfl rfl) rfl rfl rfl ?_
  refine doL_v (opV_len_slice sl23 rfl) rfl rfl rfl ?_
  refine doL_v (opV_move rfl) rfl rfl rfl ?_
  refine doL_nil ?_
  refine post_then ?_
  refine doC_block ?_
  refine doC_loopK [1, 17] [1] (α := Nat) (fun x => n - x) (fun x => x ≤ n) (fun _ => ⟨w, []⟩) (fun x => [(18, .int .i64 (x : Int))]) (fun _ => []) 0 rfl rfl ?_ ?_ ?_ ?_ rfl ?_
  ·
    exact Nat.zero_le _
  ·
    exact rfl
  ·
    repeat' first | exact trivial | exact True.intro | refine ⟨rfl, ?_⟩
  ·
    repeat' first | exact trivial | exact True.intro | refine ⟨rfl, ?_⟩
  rintro i hi
  try dsimp only at hi ⊢
  refine doC_seq ?_
  refine doC_region ?_
  refine doL_v (opV_lss rfl rfl) rfl rfl rfl ?_
  refine doL_nil ?_
  refine post_then ?_
  refine doC_seq ?_
  refine doC_cond rfl (fun hc19 => ?_) (fun hc19 => ?_)
  ·
    have h2 : i < n := by have := of_decide_eq_true hc19; omega
    obtain ⟨j, hjk⟩ : ∃ j, js[i]? = some j := ⟨_, List.getElem?_eq_getElem (by omega)⟩
    refine doC_skip ?_
    refine post_then ?_
    refine doC_seq ?_
    refine doC_block ?_
    refine doC_seq ?_
    refine doC_region ?_
    refine doL_v (opV_move rfl) rfl rfl rfl ?_
    refine doL_v (opV_assign rfl) rfl rfl rfl ?_
    refine doL_nil ?_
    refine post_then ?_
    refine doC_seq ?_
    refine doC_region ?_
    refine doL_v (opV_loadA 1 ty26 rfl rfl rfl) rfl rfl rfl ?_
    refine doL_v (opV_move rfl) rfl rfl rfl ?_
    refine doL_vg (F := vI) (opV_call en75 rfl (fun w' k => cJok aj am cj nm cm n i js j (by omega) hjn h2 hjk (hJ i j hjk) w' (slc_grow hS k.grow))) rfl rfl rfl ?_; intro r23 hr23
    refine doL_v (opV_assign rfl) rfl rfl rfl ?_
    refine doL_nil ?_
    refine post_then ?_
    refine doC_seq ?_
    refine doC_region ?_
    refine doL_v (opV_move rfl) rfl rfl rfl ?_
    refine doL_v (opV_neq rfl rfl) rfl rfl rfl ?_
    refine doL_nil ?_
    refine post_then ?_
    refine doC_cond_f rfl (by rw [hr23]; rfl) ?_
    refine doC_skip ?_
    refine post_block_normal ?_
    refine post_then ?_
    refine doC_region ?_
    refine doL_v (opV_add rfl rfl (inc_nat (by omega))) rfl rfl rfl ?_
    refine doL_v (opV_move rfl) rfl rfl rfl ?_
    refine doL_nil ?_
    refine post_again (i + 1) (by show i + 1 ≤ n; omega) (by show n - (i + 1) < n - i; omega) rfl ?_ ?_ rfl
    repeat' first | exact trivial | exact True.intro | refine ⟨rfl, ?_⟩
  ·
    refine doC_exit ?_
    refine post_then_exit ?_
    refine post_then_exit ?_
    refine post_block_exit ?_
    refine post_then ?_
    refine doC_seq ?_
    refine doC_seq ?_
    refine doC_region ?_
    refine doL_v (opV_fieldAddr fa26_1 rfl) rfl rfl rfl ?_
    refine doL_v (opV_load1 1 ty24 rfl rfl rfl) rfl rfl rfl ?_
    refine doL_v (opV_len_slice sl24 rfl) rfl rfl rfl ?_
    refine doL_v (opV_gtr rfl rfl) rfl rfl rfl ?_
    refine doL_v (opV_move rfl) rfl rfl rfl ?_
    refine doL_false 32 rfl (by rw [decide_eq_false_iff_not]; omega) ?_
    refine doL_v (opV_fieldAddr fa26_1 rfl) rfl rfl rfl ?_
    refine doL_v (opV_load1 1 ty24 rfl rfl rfl) rfl rfl rfl ?_
    refine doL_v (opV_makeFunc rfl rfl) rfl rfl rfl ?_
    refine doL_vg (F := vB) (opV_call en76 rfl (fun w' k => hasMs aj am cj nm cm n b1 l (by omega) hln hv w' (slc_grow hT k.grow) (k.at (i := 1) rfl).2)) rfl rfl rfl ?_; intro r36 hr36
    refine doL_v (opV_pick_f rfl rfl rfl rfl) rfl rfl rfl ?_
    refine doL_nil ?_
    refine post_then ?_
    refine doC_cond_f rfl (hr36) ?_
    refine doC_skip ?_
    refine post_then ?_
    refine doC_seq ?_
    refine doC_region ?_
    refine doL_v (opV_assign rfl) rfl rfl rfl ?_
    refine doL_nil ?_
    refine post_then ?_
    refine doC_ret ?_
    refine post_rets (rs := [.tmp 2]) rfl (resC (resIs_tmp rfl) (resN)) (congrArg (vI) (?_ : _ = (0 : Int)))
    rfl
end Go.Proofs.YtonampcmhhhffaaGreat
namespace Go.Proofs.YtonampcmhhhffaaGreat
open Go.Sx
theorem en27 : Enters Tryz.prog 27 := enters_of Tryz.func27 (by kernel_rfl) (by kernel_rfl)
theorem en45 : Enters Tryz.prog 45 := enters_of Tryz.func45 (by kernel_rfl) (by kernel_rfl)
theorem en29 : Enters Tryz.prog 29 := enters_of Tryz.func29 (by kernel_rfl) (by kernel_rfl)
theorem kLinksAll  (aj am ab : Option Addr) (cj nm cm cb n : Nat) (js : List J) (l : List Ms) (bx : List Iv) (hn : 1 ≤ n ∧ n ≤ 10) (hm : nm ≤ 32) (hjn : js.length = n) (hln : l.length = nm) (hbn : bx.length = n) (hJ : ∀ (i : Nat) (j : J), js[i]? = some j → JOK js i j) (hv : ∀ m ∈ l, MB n m) (hvb : ∀ a ∈ bx, Iv.valid a = true) (w : World) (hS : SlcIs 12 aj (js.map jc) w) (hM : SlcIs 5 am (l.map mc) w) (hT : SlcIs 2 ab (bx.map ivc) w) : Calls Tryz.prog 19 [.agg #[.slice aj n cj, .slice am nm cm], .slice ab n cb].toArray w (RetsF (X := Nat) (fun _ => True) (fun b => .slice (some ⟨b, 0, none⟩) n n) (fun b => SlcIs 24 (some ⟨b, 0, none⟩) ((lks js bx n).map pc)) w) := by
  refine calls_of_doC (n := 17) Tryz.func19 rfl rfl rfl ?_
  refine doC_seq ?_
  refine doC_region ?_
  refine doL_box 2 rfl rfl rfl rfl ?_; intro b2
  refine doL_v (opV_assign rfl) rfl rfl rfl ?_
  refine doL_nil ?_
  refine post_then ?_
  refine doC_seq ?_
  refine doC_seq ?_
  refine doC_region ?_
  refine doL_v (opV_loadA 2 ty26 rfl rfl rfl) rfl rfl rfl ?_
  refine doL_v (opV_move rfl) rfl rfl rfl ?_
  refine doL_vg (F := vB) (opV_call en27 rfl (fun w' k => kIsBox aj am ab cj nm cm cb n bx (by omega) hbn hvb w' (slc_grow hT k.grow))) rfl rfl rfl ?_; intro r7 hr7
  refine doL_v (opV_not rfl) rfl rfl rfl ?_
  refine doL_v (opV_move rfl) rfl rfl rfl ?_
  refine doL_false 9 rfl (by rw [hr7]; rfl) ?_
  refine doL_v (opV_loadA 2 ty26 rfl rfl rfl) rfl rfl rfl ?_
  refine doL_vg (F := vI) (opV_call en45 rfl (fun w' k => cCheck aj am cj nm cm n js l hn hm hjn hln hJ hv w' (slc_grow hS k.grow) (slc_grow hM k.grow))) rfl rfl rfl ?_; intro r11 hr11
  refine doL_v (opV_neq rfl rfl) rfl rfl rfl ?_
  refine doL_v (opV_pick_f rfl rfl rfl rfl) rfl rfl rfl ?_
  refine doL_nil ?_
  refine post_then ?_
  refine doC_cond_f rfl (by rw [hr11]; rfl) ?_
  refine doC_skip ?_
  refine post_then ?_
  refine doC_seq ?_
  refine doC_region ?_
  refine doL_v (opV_loadA 2 ty26 rfl rfl rfl) rfl rfl rfl ?_
  refine doL_v (opV_move rfl) rfl rfl rfl ?_
  refine doL_told 16 en29 rfl (fun w' k => kLinks aj am ab cj nm cm cb n js bx (by omega) hjn hbn (fun i j hj => by obtain ⟨_, _, _, _, _, _, _, h, _⟩ := hJ i j hj; exact h) w' (slc_grow hS k.grow) (slc_grow hT k.grow)) rfl rfl ?_; intro x16 Dx16 _
  refine doL_v (opV_assign rfl) rfl rfl rfl ?_
  refine doL_nil ?_
  refine post_then ?_
  refine doC_ret ?_
  refine post_ret (rs := [.tmp 4]) rfl (resC (resIs_tmp rfl) (resN)) rfl ?_
  intro w2 k2
  obtain ⟨p1, p2, p3⟩ := k2.facts _ List.mem_cons_self
  exact ⟨x16, trivial, rfl, k2.grow, _, p1, fun z hz => ⟨(p2 z hz).1, (p2 z hz).2.1⟩, p3⟩
end Go.Proofs.YtonampcmhhhffaaGreat
namespace Go.Proofs.YtonampcmhhhffaaGreat
open Go.Sx Go.RowKit
theorem let0 : (letterB 0).size = 1 ∧ Utf8.decode (letterB 0) 0 = (97, 1) ∧ ((letterB 0).toList == (ByteArray.mk #[119, 111, 114, 108, 100]).toList) = false := by refine ⟨?_, ?_, ?_⟩ <;> kernel_rfl
theorem let1 : (letterB 1).size = 1 ∧ Utf8.decode (letterB 1) 0 = (98, 1) ∧ ((letterB 1).toList == (ByteArray.mk #[119, 111, 114, 108, 100]).toList) = false := by refine ⟨?_, ?_, ?_⟩ <;> kernel_rfl
theorem let2 : (letterB 2).size = 1 ∧ Utf8.decode (letterB 2) 0 = (99, 1) ∧ ((letterB 2).toList == (ByteArray.mk #[119, 111, 114, 108, 100]).toList) = false := by refine ⟨?_, ?_, ?_⟩ <;> kernel_rfl
theorem ne01 : ((letterB 0).toList == (letterB 1).toList) = false := by kernel_rfl
theorem ne02 : ((letterB 0).toList == (letterB 2).toList) = false := by kernel_rfl
theorem ne12 : ((letterB 1).toList == (letterB 2).toList) = false := by kernel_rfl
theorem letter_ok (k : Nat) (h : k < 3) : ∃ c : Nat, (letterB k).size = 1 ∧ Utf8.decode (letterB k) 0 = (c, 1) ∧ (97 ≤ c ∧ c ≤ 122) ∧ ((letterB k).toList == (ByteArray.mk #[119, 111, 114, 108, 100]).toList) = false := by
  rcases (show k = 0 ∨ k = 1 ∨ k = 2 by omega) with rfl | rfl | rfl
  · exact ⟨97, let0.1, let0.2.1, by omega, let0.2.2⟩
  · exact ⟨98, let1.1, let1.2.1, by omega, let1.2.2⟩
  · exact ⟨99, let2.1, let2.2.1, by omega, let2.2.2⟩
theorem letter_ne (a b : Nat) (h : a < b) (hb : b < 3) : ((letterB a).toList == (letterB b).toList) = false := by
  rcases (show (a = 0 ∧ b = 1) ∨ (a = 0 ∧ b = 2) ∨ (a = 1 ∧ b = 2) by omega) with ⟨rfl, rfl⟩ | ⟨rfl, rfl⟩ | ⟨rfl, rfl⟩
  · exact ne01
  · exact ne02
  · exact ne12
theorem joint_lim (L : List Int) (p : Nat) (k : Int) : -limK (jointOf L p k).1.kind ≤ (jointOf L p k).1.lo ∧ (jointOf L p k).1.hi ≤ limK (jointOf L p k).1.kind := by
  have hk := (jointOf_same L p k).2.1
  rw [hk]
  by_cases h0 : kindOf (srcR L (p + 2) 8) = 0
  · rw [jointOf_fix h0, h0]
    exact ⟨by show -limK 0 ≤ 0; decide, by show 0 ≤ limK 0; decide⟩
  · by_cases h : kindOf (srcR L (p + 2) 8) = 4 ∨ kindOf (srcR L (p + 2) 8) = 5
    · rw [jointOf_sl h]
      have a := srcR_bnd L (jQ p k) (k := 3) (by decide)
      have b := srcR_bnd L (jQ p k + 1) (k := 4) (by decide)
      have e : limK (kindOf (srcR L (p + 2) 8)) = 4194304 := by unfold limK; rw [if_neg (by omega), if_pos (by omega)]
      rw [e]
      dsimp only
      omega
    · rw [jointOf_tu h0 h]
      have a := srcR_bnd L (jQ p k) (k := 5) (by decide)
      have b := srcR_bnd L (jQ p k + 1) (k := 4) (by decide)
      have c := srcR_bnd L (jQ p k + 2) (k := 3) (by decide)
      have e : 524288 ≤ limK (kindOf (srcR L (p + 2) 8)) := by
        have := kindOf_b (srcR L (p + 2) 8)
        unfold limK
        repeat' split
        all_goals omega
      dsimp only
      rw [Int.tdiv_eq_ediv_of_nonneg (a := (1 + srcR L (jQ p k + 1) 4) * 65536) (by omega), show (-srcR L (jQ p k) 5 * 65536).tdiv 8 = -(srcR L (jQ p k) 5 * 8192) by
        rw [show -srcR L (jQ p k) 5 * 65536 = -(srcR L (jQ p k) 5 * 8192) * 8 by omega]
        exact Int.mul_tdiv_cancel _ (by decide)]
      omega
theorem base_b (L : List Int) (p k : Nat) : (-1 ≤ (jBase L p (k : Int)).parent ∧ (jBase L p (k : Int)).parent < k) ∧ (-4194304 ≤ (jBase L p (k : Int)).off.x ∧ (jBase L p (k : Int)).off.x ≤ 4194304) ∧ (-4194304 ≤ (jBase L p (k : Int)).off.y ∧ (jBase L p (k : Int)).off.y ≤ 4194304) ∧ (-4194304 ≤ (jBase L p (k : Int)).off.z ∧ (jBase L p (k : Int)).off.z ≤ 4194304) := by
  have c := srcR_bnd L (p + 4) (k := 2 * 2 + 1) (by decide)
  have d := srcR_bnd L (p + 5) (k := 2 * 1 + 1) (by decide)
  unfold jBase srcS
  dsimp only
  refine ⟨?_, ?_⟩
  · split <;> omega
  · split <;> (dsimp only; omega)
theorem made_JOK (L : List Int) (i n : Nat) (hn : n ≤ 3) (k : Nat) (j : J) (h : (jsOf L i n).1[k]? = some j) : JOK (jsOf L i n).1 k j := by
  have hk : k < n := by have := (List.getElem?_eq_some_iff.1 h).1; rw [jsOf_len] at this; exact this
  obtain ⟨p, rfl⟩ := jsOf_get L i n k j h
  obtain ⟨s1, s2, s3, s4, s5, s6, s7, s8⟩ := jointOf_same L p (k : Int)
  obtain ⟨c, l1, l2, l3, l4⟩ := letter_ok k (by omega)
  obtain ⟨b1, b2, b3, b4⟩ := base_b L p k
  have lim := joint_lim L p (k : Int)
  have jb := jointOf_b L p (k : Int)
  have a := srcR_bnd L p (k := 4) (by decide)
  have b := srcR_bnd L (p + 1) (k := 3) (by decide)
  refine ⟨c, fun q hq j2 h2 => ?_, by rw [s1]; exact l1, by rw [s1]; exact l2, l3, by rw [s1]; exact l4, by rw [s2]; exact kindOf_b _, by rw [s3]; exact b1, by rw [s4]; exact b2, by rw [s4]; exact b3, by rw [s4]; exact b4, ⟨jb.2.1, lim.1, lim.2⟩, by rw [s5]; omega, by rw [s6]; omega, by rw [s7]; omega, by rw [s8]; omega⟩
  obtain ⟨p2, rfl⟩ := jsOf_get L i n q j2 h2
  rw [(jointOf_same L p2 (q : Int)).1, s1]
  exact letter_ne q k hq (by omega)
end Go.Proofs.YtonampcmhhhffaaGreat
namespace Go.Proofs.YtonampcmhhhffaaGreat
open Go.Sx Go.RowKit
theorem bxs_length {l : List Int} {js : List J} : ∀ k, k ≤ js.length → (bxs l js k).1.length = k
  | 0, _ => rfl
  | k + 1, h => by
    have hk : js[k]? = some js[k] := List.getElem?_eq_getElem (by omega)
    have h2 := bxs_length (l := l) (js := js) k (by omega)
    simp only [bxs, hk, List.length_append, List.length_singleton, h2]
theorem madeBox {lv : Value} {l l2 : List Int} {aj am : Option Addr} {cj nm cm : Nat} (w : World) (hl : IntsAt w w.heap.size lv l2) (hS : SlcIs 12 aj ((jsOf l 0 (nJ l 0)).1.map jc) w) :
    Calls Tryz.prog 16 [.agg #[.slice aj (nJ l 0) cj, .slice am nm cm], lv].toArray w (RetsF (X := Option Addr × Nat) (fun _ => True) (fun x => .slice x.1 (nJ l 0) x.2) (fun x => SlcIs 2 x.1 ((bxs l2 (jsOf l 0 (nJ l 0)).1 (nJ l 0)).1.map ivc)) w) := by
  have h := mkBox lv l2 aj am cj nm cm (jsOf l 0 (nJ l 0)).1 (by rw [jsOf_len]; have := nJ_b l 0; omega) (jsOf_b l 0 _) w hl hS
  rw [jsOf_len] at h
  exact h
theorem madeLinks {l : List Int} {aj am ab : Option Addr} {cj cm cb : Nat} {bx : List Iv} (w : World) (hb : bx.length = nJ l 0) (hv : ∀ a ∈ bx, Iv.valid a = true) (hS : SlcIs 12 aj ((jsOf l 0 (nJ l 0)).1.map jc) w) (hM : SlcIs 5 am ((msOf l 0 (nM l 0)).map mc) w) (hT : SlcIs 2 ab (bx.map ivc) w) :
    Calls Tryz.prog 19 [.agg #[.slice aj (nJ l 0) cj, .slice am (nM l 0) cm], .slice ab (nJ l 0) cb].toArray w (RetsF (X := Nat) (fun _ => True) (fun b => .slice (some ⟨b, 0, none⟩) (nJ l 0) (nJ l 0)) (fun b => SlcIs 24 (some ⟨b, 0, none⟩) ((lks (jsOf l 0 (nJ l 0)).1 bx (nJ l 0)).map pc)) w) := by
  have hn := nJ_b l 0
  have hm := nM_b l 0
  exact kLinksAll aj am ab cj (nM l 0) cm cb (nJ l 0) (jsOf l 0 (nJ l 0)).1 (msOf l 0 (nM l 0)) bx (by omega) (by omega) (jsOf_len _ _ _) (msOf_len _ _ _) hb (fun i j h => made_JOK l 0 (nJ l 0) hn.2.1 i j h) (fun m h => msOf_get l 0 _ m h) hv w hS hM hT
end Go.Proofs.YtonampcmhhhffaaGreat

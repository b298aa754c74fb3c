/- Part 10 of the texts behind the last one: rules and contracts. No condition. -/
import Derived.Test.YtonampcmhhhffaaGreatKM9
namespace Go.Proofs.YtonampcmhhhffaaGreat
open Go.Sx
theorem fa41_1 : fieldB Tryz.prog 41 1 1 = true := by kernel_rfl
theorem fa41_2 : fieldB Tryz.prog 41 2 2 = true := by kernel_rfl
theorem ty39 : tyB Tryz.prog 39 false 1 = true := by kernel_rfl
theorem fa41_0 : fieldB Tryz.prog 41 0 0 = true := by kernel_rfl
theorem en53 : Enters Tryz.prog 53 := enters_of Tryz.func53 (by kernel_rfl) (by kernel_rfl)
theorem ty41 : tyB Tryz.prog 41 true 3 = true := by kernel_rfl
theorem en52 : Enters Tryz.prog 52 := enters_of Tryz.func52 (by kernel_rfl) (by kernel_rfl)
theorem ty76 : tyB Tryz.prog 76 true 2 = true := by kernel_rfl
theorem fa76_0 : fieldB Tryz.prog 76 0 0 = true := by kernel_rfl
theorem fa76_1 : fieldB Tryz.prog 76 1 1 = true := by kernel_rfl
theorem en57 : Enters Tryz.prog 57 := enters_of Tryz.func57 (by kernel_rfl) (by kernel_rfl)
theorem app42 : appB Tryz.prog 42 46 6 48 = true := by kernel_rfl
theorem en58 : Enters Tryz.prog 58 := enters_of Tryz.func58 (by kernel_rfl) (by kernel_rfl)
theorem sIsLink (i : Int) (aj am asp ak : Option Addr) (cj nm cm csp ck n ns nk : Nat) (hi : -1 ≤ i ∧ i < n) (w : World) : Calls Tryz.prog 53 [.agg #[.slice aj n cj, .slice am nm cm, .slice asp ns csp, .slice ak nk ck], .int .i64 i].toArray w (Rets (vB (true)) (w)) := by
  refine calls_of_doC (n := 15) Tryz.func53 rfl rfl rfl ?_
  refine doC_seq ?_
  refine doC_region ?_
  refine doL_box 2 rfl rfl rfl rfl ?_; intro b2
  refine doL_v (opV_assign rfl) rfl rfl rfl ?_
  refine doL_nil ?_
  refine post_then ?_
  refine doC_seq ?_
  refine doC_region ?_
  refine doL_v (opV_move rfl) rfl rfl rfl ?_
  refine doL_v (opV_leq rfl rfl) rfl rfl rfl ?_
  refine doL_v (opV_move rfl) rfl rfl rfl ?_
  refine doL_true 7 rfl (decide_eq_true (by omega)) ?_
  refine doL_v (opV_move rfl) rfl rfl rfl ?_
  refine doL_v (opV_fieldAddr fa30_0 rfl) rfl rfl rfl ?_
  refine doL_v (opV_fieldAddr fa26_0 rfl) rfl rfl rfl ?_
  refine doL_v (opV_load1 2 ty23 rfl rfl rfl) rfl rfl rfl ?_
  refine doL_v (opV_len_slice sl23 rfl) rfl rfl rfl ?_
  refine doL_v (opV_lss rfl rfl) rfl rfl rfl ?_
  refine doL_v (opV_pick_t rfl rfl rfl rfl) rfl rfl rfl ?_
  refine doL_v (opV_assign rfl) rfl rfl rfl ?_
  refine doL_nil ?_
  refine post_then ?_
  refine doC_ret ?_
  refine post_rets (rs := [.tmp 4]) rfl (resC (resIs_tmp rfl) (resN)) (congrArg (vB) (?_ : _ = true))
  exact decide_eq_true (by omega)
theorem shCheck  (lk rad : Int) (ap : Option Addr) (np cp : Nat) (pts : List Z3) (hnp : pts.length = np) (hr : 1 ≤ rad ∧ rad ≤ 1048576) (hl : 1 ≤ np ∧ np ≤ 8) (hb : ∀ z ∈ pts, ZB z) (w : World) (hT : SlcIs 3 ap (pts.map z3c) w) : Calls Tryz.prog 57 [.agg #[.int .i64 lk, .int .i64 rad, .slice ap np cp]].toArray w (Rets (vB (true)) (w)) := by
  refine calls_of_doC (n := 46) Tryz.func57 rfl rfl rfl ?_
  refine doC_seq ?_
  refine doC_region ?_
  refine doL_box 1 rfl rfl rfl rfl ?_; intro b1
  refine doL_v (opV_assign rfl) rfl rfl rfl ?_
  refine doL_nil ?_
  refine post_then ?_
  refine doC_seq ?_
  refine doC_seq ?_
  refine doC_region ?_
  refine doL_v (opV_fieldAddr fa41_1 rfl) rfl rfl rfl ?_
  refine doL_v (opV_load1 1 ty2 rfl rfl rfl) rfl rfl rfl ?_
  refine doL_v (opV_lss rfl rfl) rfl rfl rfl ?_
  refine doL_v (opV_move rfl) rfl rfl rfl ?_
  refine doL_false 10 rfl (by rw [decide_eq_false_iff_not]; omega) ?_
  refine doL_v (opV_fieldAddr fa41_1 rfl) rfl rfl rfl ?_
  refine doL_v (opV_load1 1 ty2 rfl rfl rfl) rfl rfl rfl ?_
  refine doL_v (opV_gtr rfl rfl) rfl rfl rfl ?_
  refine doL_v (opV_pick_f rfl rfl rfl rfl) rfl rfl rfl ?_
  refine doL_v (opV_move rfl) rfl rfl rfl ?_
  refine doL_false 15 rfl (by rw [decide_eq_false_iff_not]; omega) ?_
  refine doL_v (opV_fieldAddr fa41_2 rfl) rfl rfl rfl ?_
  refine doL_v (opV_load1 1 ty39 rfl rfl rfl) rfl rfl rfl ?_
  refine doL_v (opV_len_slice sl39 rfl) rfl rfl rfl ?_
  refine doL_v (opV_lss rfl rfl) rfl rfl rfl ?_
  refine doL_v (opV_pick_f rfl rfl rfl rfl) rfl rfl rfl ?_
  refine doL_v (opV_move rfl) rfl rfl rfl ?_
  refine doL_false 21 rfl (by rw [decide_eq_false_iff_not]; omega) ?_
  refine doL_v (opV_fieldAddr fa41_2 rfl) rfl rfl rfl ?_
  refine doL_v (opV_load1 1 ty39 rfl rfl rfl) rfl rfl rfl ?_
  refine doL_v (opV_len_slice sl39 rfl) rfl rfl rfl ?_
  refine doL_v (opV_gtr rfl rfl) rfl rfl rfl ?_
  refine doL_v (opV_pick_f rfl rfl rfl rfl) rfl rfl rfl ?_
  refine doL_nil ?_
  refine post_then ?_
  refine doC_cond_f rfl (by rw [decide_eq_false_iff_not]; omega) ?_
  refine doC_skip ?_
  refine post_then ?_
  refine doC_seq ?_
  refine doC_seq ?_
  refine doC_region ?_
  refine doL_v (opV_fieldAddr fa41_2 rfl) rfl rfl rfl ?_
  refine doL_v (opV_load1 1 ty39 rfl rfl rfl) rfl rfl rfl ?_
  refine doL_v (opV_len_slice sl39 rfl) rfl rfl rfl ?_
  refine doL_v (opV_move rfl) rfl rfl rfl ?_
  refine doL_nil ?_
  refine post_then ?_
  refine doC_block ?_
  refine doC_loopK [28, 29] [] (α := Nat) (fun x => np - x) (fun x => x ≤ np) (fun _ => ⟨w, []⟩) (fun x => [(30, .int .i64 (x : Int))]) (fun _ => []) 0 rfl rfl ?_ ?_ ?_ ?_ rfl ?_
  ·
    exact Nat.zero_le _
  ·
    exact rfl
  ·
    repeat' first | exact trivial | exact True.intro | refine ⟨rfl, ?_⟩
  ·
    repeat' first | exact trivial | exact True.intro | refine ⟨rfl, ?_⟩
  rintro k hk
  try dsimp only at hk ⊢
  refine doC_seq ?_
  refine doC_region ?_
  refine doL_v (opV_lss rfl rfl) rfl rfl rfl ?_
  refine doL_nil ?_
  refine post_then ?_
  refine doC_seq ?_
  refine doC_cond rfl (fun hc31 => ?_) (fun hc31 => ?_)
  ·
    have h2 : k < np := by have := of_decide_eq_true hc31; omega
    obtain ⟨z, hzk⟩ : ∃ z, pts[k]? = some z := ⟨_, List.getElem?_eq_getElem (by omega)⟩
    have hz : (pts.map z3c)[k]? = some (z3c z) := by rw [List.getElem?_map, hzk]; rfl
    obtain ⟨z0, z1, z2⟩ := hb z (List.mem_of_getElem? hzk)
    refine doC_skip ?_
    refine post_then ?_
    refine doC_seq ?_
    refine doC_block ?_
    refine doC_seq ?_
    refine doC_region ?_
    refine doL_v (opV_indexS (e := 50) (holds_base hT) (by kernel_rfl) rfl rfl rfl hz h2) rfl rfl rfl ?_
    refine doL_v (opV_loadSA (vs := z3c z) k 0 (holds_base hT) hz ty50 rfl rfl) rfl rfl rfl ?_
    refine doL_alloc 4 ze50 rfl rfl rfl ?_; intro b4
    refine doL_store 4 ty50 rfl rfl rfl rfl rfl rfl rfl rfl ?_
    refine doL_nil ?_
    refine post_then ?_
    refine doC_seq ?_
    refine doC_region ?_
    refine doL_v (opV_loadA 4 ty50 rfl rfl rfl) rfl rfl rfl ?_
    refine doL_v (opV_move rfl) rfl rfl rfl ?_
    refine doL_nil ?_
    refine post_then ?_
    refine doC_block ?_
    refine doC_rounds 4 ?_
    refine doR_succ ?_
    refine doC_seq ?_
    refine doC_region ?_
    refine doL_v (opV_lss rfl rfl) rfl rfl rfl ?_
    refine doL_nil ?_
    refine post_then ?_
    refine doC_seq ?_
    refine doC_cond_t rfl (by decide) ?_
    refine doC_skip ?_
    refine post_then ?_
    refine doC_seq ?_
    refine doC_block ?_
    refine doC_seq ?_
    refine doC_region ?_
    refine doL_v (opV_index rfl rfl (ix3_0)) rfl rfl rfl ?_
    refine doL_v (opV_assign rfl) rfl rfl rfl ?_
    refine doL_nil ?_
    refine post_then ?_
    refine doC_seq ?_
    refine doC_region ?_
    refine doL_v (opV_move rfl) rfl rfl rfl ?_
    refine doL_v (opV_lss rfl rfl) rfl rfl rfl ?_
    refine doL_v (opV_move rfl) rfl rfl rfl ?_
    refine doL_false 40 rfl (by rw [decide_eq_false_iff_not]; omega) ?_
    refine doL_v (opV_move rfl) rfl rfl rfl ?_
    refine doL_v (opV_gtr rfl rfl) rfl rfl rfl ?_
    refine doL_v (opV_pick_f rfl rfl rfl rfl) rfl rfl rfl ?_
    refine doL_nil ?_
    refine post_then ?_
    refine doC_cond_f rfl (by rw [decide_eq_false_iff_not]; omega) ?_
    refine doC_skip ?_
    refine post_block_normal ?_
    refine post_then ?_
    refine doC_region ?_
    refine doL_v (opV_add rfl rfl (by first | exact i64_in ⟨by omega, by omega⟩ | rfl)) rfl rfl rfl ?_
    refine doL_v (opV_move rfl) rfl rfl rfl ?_
    refine doL_nil ?_
    refine post_rounds ?_
    refine doR_succ ?_
    refine doC_seq ?_
    refine doC_region ?_
    refine doL_v (opV_lss rfl rfl) rfl rfl rfl ?_
    refine doL_nil ?_
    refine post_then ?_
    refine doC_seq ?_
    refine doC_cond_t rfl (by decide) ?_
    refine doC_skip ?_
    refine post_then ?_
    refine doC_seq ?_
    refine doC_block ?_
    refine doC_seq ?_
    refine doC_region ?_
    refine doL_v (opV_index rfl rfl (ix3_1)) rfl rfl rfl ?_
    refine doL_v (opV_assign rfl) rfl rfl rfl ?_
    refine doL_nil ?_
    refine post_then ?_
    refine doC_seq ?_
    refine doC_region ?_
    refine doL_v (opV_move rfl) rfl rfl rfl ?_
    refine doL_v (opV_lss rfl rfl) rfl rfl rfl ?_
    refine doL_v (opV_move rfl) rfl rfl rfl ?_
    refine doL_false 40 rfl (by rw [decide_eq_false_iff_not]; omega) ?_
    refine doL_v (opV_move rfl) rfl rfl rfl ?_
    refine doL_v (opV_gtr rfl rfl) rfl rfl rfl ?_
    refine doL_v (opV_pick_f rfl rfl rfl rfl) rfl rfl rfl ?_
    refine doL_nil ?_
    refine post_then ?_
    refine doC_cond_f rfl (by rw [decide_eq_false_iff_not]; omega) ?_
    refine doC_skip ?_
    refine post_block_normal ?_
    refine post_then ?_
    refine doC_region ?_
    refine doL_v (opV_add rfl rfl (by first | exact i64_in ⟨by omega, by omega⟩ | rfl)) rfl rfl rfl ?_
    refine doL_v (opV_move rfl) rfl rfl rfl ?_
    refine doL_nil ?_
    refine post_rounds ?_
    refine doR_succ ?_
    refine doC_seq ?_
    refine doC_region ?_
    refine doL_v (opV_lss rfl rfl) rfl rfl rfl ?_
    refine doL_nil ?_
    refine post_then ?_
    refine doC_seq ?_
    refine doC_cond_t rfl (by decide) ?_
    refine doC_skip ?_
    refine post_then ?_
    refine doC_seq ?_
    refine doC_block ?_
    refine doC_seq ?_
    refine doC_region ?_
    refine doL_v (opV_index rfl rfl (ix3_2)) rfl rfl rfl ?_
    refine doL_v (opV_assign rfl) rfl rfl rfl ?_
    refine doL_nil ?_
    refine post_then ?_
    refine doC_seq ?_
    refine doC_region ?_
    refine doL_v (opV_move rfl) rfl rfl rfl ?_
    refine doL_v (opV_lss rfl rfl) rfl rfl rfl ?_
    refine doL_v (opV_move rfl) rfl rfl rfl ?_
    refine doL_false 40 rfl (by rw [decide_eq_false_iff_not]; omega) ?_
    refine doL_v (opV_move rfl) rfl rfl rfl ?_
    refine doL_v (opV_gtr rfl rfl) rfl rfl rfl ?_
    refine doL_v (opV_pick_f rfl rfl rfl rfl) rfl rfl rfl ?_
    refine doL_nil ?_
    refine post_then ?_
    refine doC_cond_f rfl (by rw [decide_eq_false_iff_not]; omega) ?_
    refine doC_skip ?_
    refine post_block_normal ?_
    refine post_then ?_
    refine doC_region ?_
    refine doL_v (opV_add rfl rfl (by first | exact i64_in ⟨by omega, by omega⟩ | rfl)) rfl rfl rfl ?_
    refine doL_v (opV_move rfl) rfl rfl rfl ?_
    refine doL_nil ?_
    refine post_rounds ?_
    refine doR_succ ?_
    refine doC_seq ?_
    refine doC_region ?_
    refine doL_v (opV_lss rfl rfl) rfl rfl rfl ?_
    refine doL_nil ?_
    refine post_then ?_
    refine doC_seq ?_
    refine doC_cond_f rfl (by decide) ?_
    refine doC_exit ?_
    refine post_then_exit ?_
    refine post_then_exit ?_
    refine post_block_exit ?_
    refine post_block_normal ?_
    refine post_then ?_
    refine doC_region ?_
    refine doL_v (opV_add rfl rfl (inc_nat (by omega))) rfl rfl rfl ?_
    refine doL_v (opV_move rfl) rfl rfl rfl ?_
    refine doL_nil ?_
    refine post_again (k + 1) (by show k + 1 ≤ np; omega) (by show np - (k + 1) < np - k; omega) rfl ?_ ?_ rfl
    repeat' first | exact trivial | exact True.intro | refine ⟨rfl, ?_⟩
  ·
    refine doC_exit ?_
    refine post_then_exit ?_
    refine post_then_exit ?_
    refine post_block_exit ?_
    refine post_then ?_
    refine doC_seq ?_
    refine doC_region ?_
    refine doL_v (opV_assign rfl) rfl rfl rfl ?_
    refine doL_nil ?_
    refine post_then ?_
    refine doC_ret ?_
    refine post_rets (rs := [.tmp 2]) rfl (resC (resIs_tmp rfl) (resN)) (congrArg (vB) (?_ : _ = true))
    rfl
theorem sCheckShape  (aj am asp ak : Option Addr) (cj nm cm csp ck n ns nk : Nat) (lk rad : Int) (ap : Option Addr) (np cp : Nat) (pts : List Z3) (hlk : -1 ≤ lk ∧ lk < n) (hnp : pts.length = np) (hr : 1 ≤ rad ∧ rad ≤ 1048576) (hl : 1 ≤ np ∧ np ≤ 8) (hb : ∀ z ∈ pts, ZB z) (w : World) (hT : SlcIs 3 ap (pts.map z3c) w) : Calls Tryz.prog 52 [.agg #[.slice aj n cj, .slice am nm cm, .slice asp ns csp, .slice ak nk ck], .agg #[.int .i64 lk, .int .i64 rad, .slice ap np cp]].toArray w (Rets (vI ((0 : Int))) (w)) := by
  refine calls_of_doC (n := 55) Tryz.func52 rfl rfl rfl ?_
  refine doC_seq ?_
  refine doC_region ?_
  refine doL_box 2 rfl rfl rfl rfl ?_; intro b2
  refine doL_box 3 rfl rfl rfl rfl ?_; intro b3
  refine doL_v (opV_assign rfl) rfl rfl rfl ?_
  refine doL_nil ?_
  refine post_then ?_
  refine doC_seq ?_
  refine doC_region ?_
  refine doL_v (opV_fieldAddr fa41_2 rfl) rfl rfl rfl ?_
  refine doL_v (opV_load1 3 ty39 rfl rfl rfl) rfl rfl rfl ?_
  refine doL_v (opV_len_slice sl39 rfl) rfl rfl rfl ?_
  refine doL_v (opV_assign rfl) rfl rfl rfl ?_
  refine doL_nil ?_
  refine post_then ?_
  refine doC_seq ?_
  refine doC_seq ?_
  refine doC_region ?_
  refine doL_v (opV_loadA 2 ty30 rfl rfl rfl) rfl rfl rfl ?_
  refine doL_v (opV_fieldAddr fa41_0 rfl) rfl rfl rfl ?_
  refine doL_v (opV_load1 3 ty3 rfl rfl rfl) rfl rfl rfl ?_
  refine doL_vg (F := vB) (opV_call en53 rfl (fun w _ => sIsLink _ _ _ _ _ _ _ _ _ _ _ _ _ hlk w)) rfl rfl rfl ?_; intro r16 hr16
  refine doL_v (opV_not rfl) rfl rfl rfl ?_
  refine doL_v (opV_move rfl) rfl rfl rfl ?_
  refine doL_false 18 rfl (by rw [hr16]; rfl) ?_
  refine doL_v (opV_fieldAddr fa41_1 rfl) rfl rfl rfl ?_
  refine doL_v (opV_load1 3 ty2 rfl rfl rfl) rfl rfl rfl ?_
  refine doL_v (opV_lss rfl rfl) rfl rfl rfl ?_
  refine doL_v (opV_pick_f rfl rfl rfl rfl) rfl rfl rfl ?_
  refine doL_v (opV_move rfl) rfl rfl rfl ?_
  refine doL_false 23 rfl (by rw [decide_eq_false_iff_not]; omega) ?_
  refine doL_v (opV_fieldAddr fa41_1 rfl) rfl rfl rfl ?_
  refine doL_v (opV_load1 3 ty2 rfl rfl rfl) rfl rfl rfl ?_
  refine doL_v (opV_gtr rfl rfl) rfl rfl rfl ?_
  refine doL_v (opV_pick_f rfl rfl rfl rfl) rfl rfl rfl ?_
  refine doL_v (opV_move rfl) rfl rfl rfl ?_
  refine doL_false 28 rfl (by rw [decide_eq_false_iff_not]; omega) ?_
  refine doL_v (opV_move rfl) rfl rfl rfl ?_
  refine doL_v (opV_lss rfl rfl) rfl rfl rfl ?_
  refine doL_v (opV_pick_f rfl rfl rfl rfl) rfl rfl rfl ?_
  refine doL_v (opV_move rfl) rfl rfl rfl ?_
  refine doL_false 32 rfl (by rw [decide_eq_false_iff_not]; omega) ?_
  refine doL_v (opV_move rfl) rfl rfl rfl ?_
  refine doL_v (opV_gtr rfl rfl) rfl rfl rfl ?_
  refine doL_v (opV_pick_f rfl rfl rfl rfl) rfl rfl rfl ?_
  refine doL_nil ?_
  refine post_then ?_
  refine doC_cond_f rfl (by rw [decide_eq_false_iff_not]; omega) ?_
  refine doC_skip ?_
  refine post_then ?_
  refine doC_seq ?_
  refine doC_seq ?_
  refine doC_region ?_
  refine doL_v (opV_fieldAddr fa41_2 rfl) rfl rfl rfl ?_
  refine doL_v (opV_load1 3 ty39 rfl rfl rfl) rfl rfl rfl ?_
  refine doL_v (opV_len_slice sl39 rfl) rfl rfl rfl ?_
  refine doL_v (opV_move rfl) rfl rfl rfl ?_
  refine doL_nil ?_
  refine post_then ?_
  refine doC_block ?_
  refine doC_loopK [37, 38] [] (α := Nat) (fun x => np - x) (fun x => x ≤ np) (fun _ => ⟨w, []⟩) (fun x => [(39, .int .i64 (x : Int))]) (fun _ => []) 0 rfl rfl ?_ ?_ ?_ ?_ rfl ?_
  ·
    exact Nat.zero_le _
  ·
    exact rfl
  ·
    repeat' first | exact trivial | exact True.intro | refine ⟨rfl, ?_⟩
  ·
    repeat' first | exact trivial | exact True.intro | refine ⟨rfl, ?_⟩
  rintro k hk
  try dsimp only at hk ⊢
  refine doC_seq ?_
  refine doC_region ?_
  refine doL_v (opV_lss rfl rfl) rfl rfl rfl ?_
  refine doL_nil ?_
  refine post_then ?_
  refine doC_seq ?_
  refine doC_cond rfl (fun hc40 => ?_) (fun hc40 => ?_)
  ·
    have h2 : k < np := by have := of_decide_eq_true hc40; omega
    obtain ⟨z, hzk⟩ : ∃ z, pts[k]? = some z := ⟨_, List.getElem?_eq_getElem (by omega)⟩
    have hz : (pts.map z3c)[k]? = some (z3c z) := by rw [List.getElem?_map, hzk]; rfl
    obtain ⟨z0, z1, z2⟩ := hb z (List.mem_of_getElem? hzk)
    refine doC_skip ?_
    refine post_then ?_
    refine doC_seq ?_
    refine doC_block ?_
    refine doC_seq ?_
    refine doC_region ?_
    refine doL_v (opV_indexS (e := 50) (holds_base hT) (by kernel_rfl) rfl rfl rfl hz h2) rfl rfl rfl ?_
    refine doL_v (opV_loadSA (vs := z3c z) k 0 (holds_base hT) hz ty50 rfl rfl) rfl rfl rfl ?_
    refine doL_alloc 7 ze50 rfl rfl rfl ?_; intro b7
    refine doL_store 7 ty50 rfl rfl rfl rfl rfl rfl rfl rfl ?_
    refine doL_nil ?_
    refine post_then ?_
    refine doC_seq ?_
    refine doC_region ?_
    refine doL_v (opV_loadA 7 ty50 rfl rfl rfl) rfl rfl rfl ?_
    refine doL_v (opV_move rfl) rfl rfl rfl ?_
    refine doL_nil ?_
    refine post_then ?_
    refine doC_block ?_
    refine doC_rounds 4 ?_
    refine doR_succ ?_
    refine doC_seq ?_
    refine doC_region ?_
    refine doL_v (opV_lss rfl rfl) rfl rfl rfl ?_
    refine doL_nil ?_
    refine post_then ?_
    refine doC_seq ?_
    refine doC_cond_t rfl (by decide) ?_
    refine doC_skip ?_
    refine post_then ?_
    refine doC_seq ?_
    refine doC_block ?_
    refine doC_seq ?_
    refine doC_region ?_
    refine doL_v (opV_index rfl rfl (ix3_0)) rfl rfl rfl ?_
    refine doL_v (opV_assign rfl) rfl rfl rfl ?_
    refine doL_nil ?_
    refine post_then ?_
    refine doC_seq ?_
    refine doC_region ?_
    refine doL_v (opV_move rfl) rfl rfl rfl ?_
    refine doL_v (opV_lss rfl rfl) rfl rfl rfl ?_
    refine doL_v (opV_move rfl) rfl rfl rfl ?_
    refine doL_false 49 rfl (by rw [decide_eq_false_iff_not]; omega) ?_
    refine doL_v (opV_move rfl) rfl rfl rfl ?_
    refine doL_v (opV_gtr rfl rfl) rfl rfl rfl ?_
    refine doL_v (opV_pick_f rfl rfl rfl rfl) rfl rfl rfl ?_
    refine doL_nil ?_
    refine post_then ?_
    refine doC_cond_f rfl (by rw [decide_eq_false_iff_not]; omega) ?_
    refine doC_skip ?_
    refine post_block_normal ?_
    refine post_then ?_
    refine doC_region ?_
    refine doL_v (opV_add rfl rfl (by first | exact i64_in ⟨by omega, by omega⟩ | rfl)) rfl rfl rfl ?_
    refine doL_v (opV_move rfl) rfl rfl rfl ?_
    refine doL_nil ?_
    refine post_rounds ?_
    refine doR_succ ?_
    refine doC_seq ?_
    refine doC_region ?_
    refine doL_v (opV_lss rfl rfl) rfl rfl rfl ?_
    refine doL_nil ?_
    refine post_then ?_
    refine doC_seq ?_
    refine doC_cond_t rfl (by decide) ?_
    refine doC_skip ?_
    refine post_then ?_
    refine doC_seq ?_
    refine doC_block ?_
    refine doC_seq ?_
    refine doC_region ?_
    refine doL_v (opV_index rfl rfl (ix3_1)) rfl rfl rfl ?_
    refine doL_v (opV_assign rfl) rfl rfl rfl ?_
    refine doL_nil ?_
    refine post_then ?_
    refine doC_seq ?_
    refine doC_region ?_
    refine doL_v (opV_move rfl) rfl rfl rfl ?_
    refine doL_v (opV_lss rfl rfl) rfl rfl rfl ?_
    refine doL_v (opV_move rfl) rfl rfl rfl ?_
    refine doL_false 49 rfl (by rw [decide_eq_false_iff_not]; omega) ?_
    refine doL_v (opV_move rfl) rfl rfl rfl ?_
    refine doL_v (opV_gtr rfl rfl) rfl rfl rfl ?_
    refine doL_v (opV_pick_f rfl rfl rfl rfl) rfl rfl rfl ?_
    refine doL_nil ?_
    refine post_then ?_
    refine doC_cond_f rfl (by rw [decide_eq_false_iff_not]; omega) ?_
    refine doC_skip ?_
    refine post_block_normal ?_
    refine post_then ?_
    refine doC_region ?_
    refine doL_v (opV_add rfl rfl (by first | exact i64_in ⟨by omega, by omega⟩ | rfl)) rfl rfl rfl ?_
    refine doL_v (opV_move rfl) rfl rfl rfl ?_
    refine doL_nil ?_
    refine post_rounds ?_
    refine doR_succ ?_
    refine doC_seq ?_
    refine doC_region ?_
    refine doL_v (opV_lss rfl rfl) rfl rfl rfl ?_
    refine doL_nil ?_
    refine post_then ?_
    refine doC_seq ?_
    refine doC_cond_t rfl (by decide) ?_
    refine doC_skip ?_
    refine post_then ?_
    refine doC_seq ?_
    refine doC_block ?_
    refine doC_seq ?_
    refine doC_region ?_
    refine doL_v (opV_index rfl rfl (ix3_2)) rfl rfl rfl ?_
    refine doL_v (opV_assign rfl) rfl rfl rfl ?_
    refine doL_nil ?_
    refine post_then ?_
    refine doC_seq ?_
    refine doC_region ?_
    refine doL_v (opV_move rfl) rfl rfl rfl ?_
    refine doL_v (opV_lss rfl rfl) rfl rfl rfl ?_
    refine doL_v (opV_move rfl) rfl rfl rfl ?_
    refine doL_false 49 rfl (by rw [decide_eq_false_iff_not]; omega) ?_
    refine doL_v (opV_move rfl) rfl rfl rfl ?_
    refine doL_v (opV_gtr rfl rfl) rfl rfl rfl ?_
    refine doL_v (opV_pick_f rfl rfl rfl rfl) rfl rfl rfl ?_
    refine doL_nil ?_
    refine post_then ?_
    refine doC_cond_f rfl (by rw [decide_eq_false_iff_not]; omega) ?_
    refine doC_skip ?_
    refine post_block_normal ?_
    refine post_then ?_
    refine doC_region ?_
    refine doL_v (opV_add rfl rfl (by first | exact i64_in ⟨by omega, by omega⟩ | rfl)) rfl rfl rfl ?_
    refine doL_v (opV_move rfl) rfl rfl rfl ?_
    refine doL_nil ?_
    refine post_rounds ?_
    refine doR_succ ?_
    refine doC_seq ?_
    refine doC_region ?_
    refine doL_v (opV_lss rfl rfl) rfl rfl rfl ?_
    refine doL_nil ?_
    refine post_then ?_
    refine doC_seq ?_
    refine doC_cond_f rfl (by decide) ?_
    refine doC_exit ?_
    refine post_then_exit ?_
    refine post_then_exit ?_
    refine post_block_exit ?_
    refine post_block_normal ?_
    refine post_then ?_
    refine doC_region ?_
    refine doL_v (opV_add rfl rfl (inc_nat (by omega))) rfl rfl rfl ?_
    refine doL_v (opV_move rfl) rfl rfl rfl ?_
    refine doL_nil ?_
    refine post_again (k + 1) (by show k + 1 ≤ np; omega) (by show np - (k + 1) < np - k; omega) rfl ?_ ?_ rfl
    repeat' first | exact trivial | exact True.intro | refine ⟨rfl, ?_⟩
  ·
    refine doC_exit ?_
    refine post_then_exit ?_
    refine post_then_exit ?_
    refine post_block_exit ?_
    refine post_then ?_
    refine doC_seq ?_
    refine doC_region ?_
    refine doL_v (opV_assign rfl) rfl rfl rfl ?_
    refine doL_nil ?_
    refine post_then ?_
    refine doC_ret ?_
    refine post_rets (rs := [.tmp 4]) rfl (resC (resIs_tmp rfl) (resN)) (congrArg (vI) (?_ : _ = (0 : Int)))
    rfl
theorem sCheck  (aj am asp ak : Option Addr) (cj nm cm csp ck n ns nk : Nat) (js : List J) (l : List Ms) (ss : List Sp) (ds : List Ad) (rk : List (List Value)) (hn : 1 ≤ n ∧ n ≤ 10) (hm : nm ≤ 32) (hjn : js.length = n) (hln : l.length = nm) (hsn : ss.length = ns) (hdn : ds.length = ns) (hns : ns ≤ 24) (hnk : nk ≤ 64) (hrk : rk.length = nk) (hJ : ∀ (i : Nat) (j : J), js[i]? = some j → JOK js i j) (hv : ∀ m ∈ l, MB n m) (hsp : ∀ s ∈ ss, SpOK n s) (hk2 : ∀ r ∈ rk, ∃ a b : Int, r = [.int .i64 a, .int .i64 b] ∧ (-1 ≤ a ∧ a < n) ∧ (-1 ≤ b ∧ b < n)) (w : World) (hS : SlcIs 12 aj (js.map jc) w) (hM : SlcIs 5 am (l.map mc) w) (hSp : SlcIs 3 asp (spRows ss ds) w) (hPt : PtsF ss ds w) (hK : SlcIs 2 ak rk w) : Calls Tryz.prog 28 [.agg #[.slice aj n cj, .slice am nm cm, .slice asp ns csp, .slice ak nk ck]].toArray w (Rets (vI ((0 : Int))) (w)) := by
  refine calls_of_doC (n := 57) Tryz.func28 rfl rfl rfl ?_
  refine doC_seq ?_
  refine doC_region ?_
  refine doL_box 1 rfl rfl rfl rfl ?_; intro b1
  refine doL_v (opV_assign rfl) rfl rfl rfl ?_
  refine doL_nil ?_
  refine post_then ?_
  refine doC_seq ?_
  refine doC_seq ?_
  refine doC_region ?_
  refine doL_v (opV_fieldAddr fa30_0 rfl) rfl rfl rfl ?_
  refine doL_v (opV_loadA 1 ty26 rfl rfl rfl) rfl rfl rfl ?_
  refine doL_vg (F := vI) (opV_call en45 rfl (fun w' k => cCheck aj am cj nm cm n js l hn hm hjn hln hJ hv w' (slc_grow hS k.grow) (slc_grow hM k.grow))) rfl rfl rfl ?_; intro r11 hr11
  refine doL_v (opV_assign rfl) rfl rfl rfl ?_
  refine doL_nil ?_
  refine post_then ?_
  refine doC_seq ?_
  refine doC_region ?_
  refine doL_v (opV_move rfl) rfl rfl rfl ?_
  refine doL_v (opV_neq rfl rfl) rfl rfl rfl ?_
  refine doL_nil ?_
  refine post_then ?_
  refine doC_cond_f rfl (by rw [hr11]; rfl) ?_
  refine doC_skip ?_
  refine post_then ?_
  refine doC_seq ?_
  refine doC_seq ?_
  refine doC_region ?_
  refine doL_v (opV_fieldAddr fa30_1 rfl) rfl rfl rfl ?_
  refine doL_v (opV_load1 1 ty27 rfl rfl rfl) rfl rfl rfl ?_
  refine doL_v (opV_len_slice sl27 rfl) rfl rfl rfl ?_
  refine doL_v (opV_gtr rfl rfl) rfl rfl rfl ?_
  refine doL_nil ?_
  refine post_then ?_
  refine doC_cond_f rfl (by rw [decide_eq_false_iff_not]; omega) ?_
  refine doC_skip ?_
  refine post_then ?_
  refine doC_seq ?_
  refine doC_seq ?_
  refine doC_region ?_
  refine doL_v (opV_fieldAddr fa30_1 rfl) rfl rfl rfl ?_
  refine doL_v (opV_load1 1 ty27 rfl rfl rfl) rfl rfl rfl ?_
  refine doL_v (opV_len_slice sl27 rfl) rfl rfl rfl ?_
  refine doL_v (opV_move rfl) rfl rfl rfl ?_
  refine doL_nil ?_
  refine post_then ?_
  refine doC_block ?_
  refine doC_loopK [1, 20, 21] [1] (α := Nat) (fun x => ns - x) (fun x => x ≤ ns) (fun _ => ⟨w, []⟩) (fun x => [(22, .int .i64 (x : Int))]) (fun _ => []) 0 rfl rfl ?_ ?_ ?_ ?_ rfl ?_
  ·
    exact Nat.zero_le _
  ·
    exact rfl
  ·
    repeat' first | exact trivial | exact True.intro | refine ⟨rfl, ?_⟩
  ·
    repeat' first | exact trivial | exact True.intro | refine ⟨rfl, ?_⟩
  rintro k hk
  try dsimp only at hk ⊢
  refine doC_seq ?_
  refine doC_region ?_
  refine doL_v (opV_lss rfl rfl) rfl rfl rfl ?_
  refine doL_nil ?_
  refine post_then ?_
  refine doC_seq ?_
  refine doC_cond rfl (fun hc23 => ?_) (fun hc23 => ?_)
  ·
    have h2 : k < ns := by have := of_decide_eq_true hc23; omega
    obtain ⟨s, hsk⟩ : ∃ s, ss[k]? = some s := ⟨_, List.getElem?_eq_getElem (by omega)⟩
    obtain ⟨d, hdk⟩ : ∃ d, ds[k]? = some d := ⟨_, List.getElem?_eq_getElem (by omega)⟩
    have hs := spRows_get ss ds k s d hsk hdk
    have hpt := PtsF_get ss ds k s d w hsk hdk hPt
    obtain ⟨o1, o2, o3, o4⟩ := hsp s (List.mem_of_getElem? hsk)
    refine doC_skip ?_
    refine post_then ?_
    refine doC_seq ?_
    refine doC_block ?_
    refine doC_seq ?_
    refine doC_region ?_
    refine doL_v (opV_indexS (e := 41) (holds_base hSp) (by kernel_rfl) rfl rfl rfl hs h2) rfl rfl rfl ?_
    refine doL_v (opV_loadSA (vs := spc s d) k 0 (holds_base hSp) hs ty41 rfl rfl) rfl rfl rfl ?_
    refine doL_alloc 5 ze41 rfl rfl rfl ?_; intro b5
    refine doL_store 5 ty41 rfl rfl rfl rfl rfl rfl rfl rfl ?_
    refine doL_nil ?_
    refine post_then ?_
    refine doC_seq ?_
    refine doC_region ?_
    refine doL_v (opV_loadA 1 ty30 rfl rfl rfl) rfl rfl rfl ?_
    refine doL_v (opV_loadA 5 ty41 rfl rfl rfl) rfl rfl rfl ?_
    refine doL_vg (F := vI) (opV_call en52 rfl (fun w' k => sCheckShape aj am asp ak cj nm cm csp ck n ns nk s.link s.radius d.1 s.pts.length d.2 s.pts o1 rfl o2 o3 o4 w' (slc_grow hpt k.grow))) rfl rfl rfl ?_; intro r28 hr28
    refine doL_v (opV_assign rfl) rfl rfl rfl ?_
    refine doL_nil ?_
    refine post_then ?_
    refine doC_seq ?_
    refine doC_region ?_
    refine doL_v (opV_move rfl) rfl rfl rfl ?_
    refine doL_v (opV_neq rfl rfl) rfl rfl rfl ?_
    refine doL_nil ?_
    refine post_then ?_
    refine doC_cond_f rfl (by rw [hr28]; rfl) ?_
    refine doC_skip ?_
    refine post_block_normal ?_
    refine post_then ?_
    refine doC_region ?_
    refine doL_v (opV_add rfl rfl (inc_nat (by omega))) rfl rfl rfl ?_
    refine doL_v (opV_move rfl) rfl rfl rfl ?_
    refine doL_nil ?_
    refine post_again (k + 1) (by show k + 1 ≤ ns; omega) (by show ns - (k + 1) < ns - k; omega) rfl ?_ ?_ rfl
    repeat' first | exact trivial | exact True.intro | refine ⟨rfl, ?_⟩
  ·
    refine doC_exit ?_
    refine post_then_exit ?_
    refine post_then_exit ?_
    refine post_block_exit ?_
    refine post_then ?_
    refine doC_seq ?_
    refine doC_seq ?_
    refine doC_region ?_
    refine doL_v (opV_fieldAddr fa30_2 rfl) rfl rfl rfl ?_
    refine doL_v (opV_load1 1 ty28 rfl rfl rfl) rfl rfl rfl ?_
    refine doL_v (opV_len_slice sl28 rfl) rfl rfl rfl ?_
    refine doL_v (opV_gtr rfl rfl) rfl rfl rfl ?_
    refine doL_nil ?_
    refine post_then ?_
    refine doC_cond_f rfl (by rw [decide_eq_false_iff_not]; omega) ?_
    refine doC_skip ?_
    refine post_then ?_
    refine doC_seq ?_
    refine doC_seq ?_
    refine doC_region ?_
    refine doL_v (opV_fieldAddr fa30_2 rfl) rfl rfl rfl ?_
    refine doL_v (opV_load1 1 ty28 rfl rfl rfl) rfl rfl rfl ?_
    refine doL_v (opV_len_slice sl28 rfl) rfl rfl rfl ?_
    refine doL_v (opV_move rfl) rfl rfl rfl ?_
    refine doL_nil ?_
    refine post_then ?_
    refine doC_block ?_
    refine doC_loopK [1, 38, 39] [1] (α := Nat) (fun x => nk - x) (fun x => x ≤ nk) (fun _ => ⟨w, []⟩) (fun x => [(40, .int .i64 (x : Int))]) (fun _ => []) 0 rfl rfl ?_ ?_ ?_ ?_ rfl ?_
    ·
      exact Nat.zero_le _
    ·
      exact rfl
    ·
      repeat' first | exact trivial | exact True.intro | refine ⟨rfl, ?_⟩
    ·
      repeat' first | exact trivial | exact True.intro | refine ⟨rfl, ?_⟩
    rintro i hi
    try dsimp only at hi ⊢
    refine doC_seq ?_
    refine doC_region ?_
    refine doL_v (opV_lss rfl rfl) rfl rfl rfl ?_
    refine doL_nil ?_
    refine post_then ?_
    refine doC_seq ?_
    refine doC_cond rfl (fun hc41 => ?_) (fun hc41 => ?_)
    ·
      have h3 : i < nk := by have := of_decide_eq_true hc41; omega
      obtain ⟨r, hrk2⟩ : ∃ r, rk[i]? = some r := ⟨_, List.getElem?_eq_getElem (by omega)⟩
      obtain ⟨ka, kb, rfl, hka, hkb⟩ := hk2 r (List.mem_of_getElem? hrk2)
      refine doC_skip ?_
      refine post_then ?_
      refine doC_seq ?_
      refine doC_block ?_
      refine doC_seq ?_
      refine doC_region ?_
      refine doL_v (opV_indexS (e := 76) (holds_base hK) (by kernel_rfl) rfl rfl rfl hrk2 h3) rfl rfl rfl ?_
      refine doL_v (opV_loadSA (vs := [.int .i64 ka, .int .i64 kb]) i 0 (holds_base hK) hrk2 ty76 rfl rfl) rfl rfl rfl ?_
      refine doL_alloc 8 ze76 rfl rfl rfl ?_; intro b8
      refine doL_store 8 ty76 rfl rfl rfl rfl rfl rfl rfl rfl ?_
      refine doL_nil ?_
      refine post_then ?_
      refine doC_seq ?_
      refine doC_region ?_
      refine doL_v (opV_loadA 1 ty30 rfl rfl rfl) rfl rfl rfl ?_
      refine doL_v (opV_fieldAddr fa76_0 rfl) rfl rfl rfl ?_
      refine doL_v (opV_load1 8 ty3 rfl rfl rfl) rfl rfl rfl ?_
      refine doL_vg (F := vB) (opV_call en53 rfl (fun w _ => sIsLink _ _ _ _ _ _ _ _ _ _ _ _ _ hka w)) rfl rfl rfl ?_; intro r47 hr47
      refine doL_v (opV_not rfl) rfl rfl rfl ?_
      refine doL_v (opV_move rfl) rfl rfl rfl ?_
      refine doL_false 49 rfl (by rw [hr47]; rfl) ?_
      refine doL_v (opV_loadA 1 ty30 rfl rfl rfl) rfl rfl rfl ?_
      refine doL_v (opV_fieldAddr fa76_1 rfl) rfl rfl rfl ?_
      refine doL_v (opV_load1 8 ty3 rfl rfl rfl) rfl rfl rfl ?_
      refine doL_vg (F := vB) (opV_call en53 rfl (fun w _ => sIsLink _ _ _ _ _ _ _ _ _ _ _ _ _ hkb w)) rfl rfl rfl ?_; intro r53 hr53
      refine doL_v (opV_not rfl) rfl rfl rfl ?_
      refine doL_v (opV_pick_f rfl rfl rfl rfl) rfl rfl rfl ?_
      refine doL_nil ?_
      refine post_then ?_
      refine doC_cond_f rfl (by rw [hr53]; rfl) ?_
      refine doC_skip ?_
      refine post_block_normal ?_
      refine post_then ?_
      refine doC_region ?_
      refine doL_v (opV_add rfl rfl (inc_nat (by omega))) rfl rfl rfl ?_
      refine doL_v (opV_move rfl) rfl rfl rfl ?_
      refine doL_nil ?_
      refine post_again (i + 1) (by show i + 1 ≤ nk; omega) (by show nk - (i + 1) < nk - i; omega) rfl ?_ ?_ rfl
      repeat' first | exact trivial | exact True.intro | refine ⟨rfl, ?_⟩
    ·
      refine doC_exit ?_
      refine post_then_exit ?_
      refine post_then_exit ?_
      refine post_block_exit ?_
      refine post_then ?_
      refine doC_seq ?_
      refine doC_region ?_
      refine doL_v (opV_assign rfl) rfl rfl rfl ?_
      refine doL_nil ?_
      refine post_then ?_
      refine doC_ret ?_
      refine post_rets (rs := [.tmp 2]) rfl (resC (resIs_tmp rfl) (resN)) (congrArg (vI) (?_ : _ = (0 : Int)))
      rfl
theorem shPlace  (lk rad : Int) (ap : Option Addr) (np cp : Nat) (pts : List Z3) (p : Po) (hnp : pts.length = np) (hr : 1 ≤ rad ∧ rad ≤ 1048576) (hl : 1 ≤ np ∧ np ≤ 8) (hb : ∀ z ∈ pts, ZB z) (w : World) (hT : SlcIs 3 ap (pts.map z3c) w) : Calls Tryz.prog 31 [.agg #[.int .i64 lk, .int .i64 rad, .slice ap np cp], .agg #[.int .i64 p.r.x.x.lo, .int .i64 p.r.x.x.hi, .int .i64 p.r.x.y.lo, .int .i64 p.r.x.y.hi, .int .i64 p.r.x.z.lo, .int .i64 p.r.x.z.hi, .int .i64 p.r.y.x.lo, .int .i64 p.r.y.x.hi, .int .i64 p.r.y.y.lo, .int .i64 p.r.y.y.hi, .int .i64 p.r.y.z.lo, .int .i64 p.r.y.z.hi, .int .i64 p.r.z.x.lo, .int .i64 p.r.z.x.hi, .int .i64 p.r.z.y.lo, .int .i64 p.r.z.y.hi, .int .i64 p.r.z.z.lo, .int .i64 p.r.z.z.hi, .int .i64 p.t.x.lo, .int .i64 p.t.x.hi, .int .i64 p.t.y.lo, .int .i64 p.t.y.hi, .int .i64 p.t.z.lo, .int .i64 p.t.z.hi]].toArray w (RetsF (X := Nat) (fun _ => True) (fun b => .slice (some ⟨b, 0, none⟩) np np) (fun b => SlcIs 6 (some ⟨b, 0, none⟩) ((plR p pts).map vc)) w) := by
  refine calls_of_doC (n := 32) Tryz.func31 rfl rfl rfl ?_
  refine doC_seq ?_
  refine doC_region ?_
  refine doL_box 2 rfl rfl rfl rfl ?_; intro b2
  refine doL_box 3 rfl rfl rfl rfl ?_; intro b3
  refine doL_v (opV_assign rfl) rfl rfl rfl ?_
  refine doL_nil ?_
  refine post_then ?_
  refine doC_seq ?_
  refine doC_seq ?_
  refine doC_region ?_
  refine doL_v (opV_loadA 2 ty41 rfl rfl rfl) rfl rfl rfl ?_
  refine doL_vg (F := vB) (opV_call en57 rfl (fun w' k => shCheck lk rad ap np cp pts hnp hr hl hb w' (slc_grow hT k.grow))) rfl rfl rfl ?_; intro r9 hr9
  refine doL_v (opV_not rfl) rfl rfl rfl ?_
  refine doL_nil ?_
  refine post_then ?_
  refine doC_cond_f rfl (by rw [hr9]; rfl) ?_
  refine doC_skip ?_
  refine post_then ?_
  refine doC_seq ?_
  refine doC_region ?_
  refine doL_v (opV_fieldAddr fa41_2 rfl) rfl rfl rfl ?_
  refine doL_v (opV_load1 2 ty39 rfl rfl rfl) rfl rfl rfl ?_
  refine doL_v (opV_len_slice sl39 rfl) rfl rfl rfl ?_
  refine doL_make 14 (makeB_of app42 ze46) rfl (by omega) (by omega) rfl rfl ?_; intro b14
  refine doL_v (opV_assign rfl) rfl rfl rfl ?_
  refine doL_nil ?_
  refine post_then ?_
  refine doC_seq ?_
  refine doC_seq ?_
  refine doC_region ?_
  refine doL_v (opV_fieldAddr fa41_2 rfl) rfl rfl rfl ?_
  refine doL_v (opV_load1 2 ty39 rfl rfl rfl) rfl rfl rfl ?_
  refine doL_v (opV_len_slice sl39 rfl) rfl rfl rfl ?_
  refine doL_v (opV_move rfl) rfl rfl rfl ?_
  refine doL_nil ?_
  refine post_then ?_
  refine doC_block ?_
  refine doC_loopK [3, 5, 16, 17] [3] (α := Nat × List V3) (fun x => np - x.1) (fun x => x.1 ≤ np ∧ plR p (pts.take x.1) = x.2 ∧ x.2.length = x.1) (fun x => ⟨w, [(14, (· = b14), RowsF b14 6 46 (plF x.2 (np - x.1)))]⟩) (fun x => [(18, .int .i64 (x.1 : Int))]) (fun _ => []) (0, []) rfl rfl ?_ ?_ ?_ ?_ rfl ?_
  ·
    exact ⟨Nat.zero_le _, rfl, rfl⟩
  ·
    exact rfl
  ·
    repeat' first | exact trivial | exact True.intro | refine ⟨rfl, ?_⟩
  ·
    repeat' first | exact trivial | exact True.intro | refine ⟨rfl, ?_⟩
  rintro ⟨k, vs⟩ ⟨hk, hvs, hlen⟩
  dsimp only at hk hvs hlen ⊢
  subst hlen
  refine doC_seq ?_
  refine doC_region ?_
  refine doL_v (opV_lss rfl rfl) rfl rfl rfl ?_
  refine doL_nil ?_
  refine post_then ?_
  refine doC_seq ?_
  refine doC_cond rfl (fun hc19 => ?_) (fun hc19 => ?_)
  ·
    have h2 : vs.length < np := by have := of_decide_eq_true hc19; omega
    obtain ⟨z, hzk⟩ : ∃ z, pts[vs.length]? = some z := ⟨_, List.getElem?_eq_getElem (by omega)⟩
    have hz : (pts.map z3c)[vs.length]? = some (z3c z) := by rw [List.getElem?_map, hzk]; rfl
    obtain ⟨z0, z1, z2⟩ := hb z (List.mem_of_getElem? hzk)
    obtain ⟨m, hm⟩ : ∃ m, np - vs.length = m + 1 := ⟨np - vs.length - 1, by omega⟩
    rw [hm]
    refine doC_skip ?_
    refine post_then ?_
    refine doC_seq ?_
    refine doC_block ?_
    refine doC_seq ?_
    refine doC_region ?_
    refine doL_v (opV_move rfl) rfl rfl rfl ?_
    refine doL_v (opV_indexS (e := 50) (holds_base hT) (by kernel_rfl) rfl rfl rfl hz h2) rfl rfl rfl ?_
    refine doL_v (opV_loadSA (vs := z3c z) vs.length 0 (holds_base hT) hz ty50 rfl rfl) rfl rfl rfl ?_
    refine doL_alloc 7 ze50 rfl rfl rfl ?_; intro b7
    refine doL_v (opV_assign rfl) rfl rfl rfl ?_
    refine doL_store 7 ty50 rfl rfl rfl rfl rfl rfl rfl rfl ?_
    refine doL_nil ?_
    refine post_then ?_
    refine doC_drawn 6 mo (by kernel_rfl) ?_
    simp only [List.take_succ_cons, List.take_zero, List.drop_succ_cons, List.drop_zero]
    refine doG_v (opV_move rfl) rfl rfl rfl ?_
    refine doG_v (opV_move rfl) rfl rfl rfl ?_
    refine doG_v (opV_loadA 3 ty66 rfl rfl rfl) rfl rfl rfl ?_
    refine doG_v (opV_loadA 7 ty50 rfl rfl rfl) rfl rfl rfl ?_
    refine doG_vg (F := v3) (opV_call en59 rfl (fun w _ => mPoint _ _ _  w)) rfl rfl rfl ?_; intro r27 hr27
    refine doG_vg (F := v3) (opV_call en58 rfl (fun w _ => pApply _ _ _ _ _ _ _ _ _ _ _ _ _ _ _ _ _ _ _ _ _ _ _ _ _ _ _ _ _ _  w)) rfl rfl rfl ?_; intro r28 hr28
    refine doG_nil ?_
    refine tail_nil ?_
    refine doL_v (opV_indexS (e := 46) ((holds_r (id := 14) rfl).imp rowsF_slc) (by kernel_rfl) rfl rfl rfl plF_me h2) rfl rfl rfl ?_
    refine doL_storeRow (vs := vc r28) (j := vs.length) 14 ty46 rfl rfl rfl (by simp [plF]) rfl rfl rfl rfl ?_; intro R29 hR29
    obtain rfl := Option.some.inj hR29
    rw [plF_set]
    refine doL_nil ?_
    refine post_block_normal ?_
    refine post_then ?_
    refine doC_region ?_
    refine doL_v (opV_add rfl rfl (inc_nat (by omega))) rfl rfl rfl ?_
    refine doL_v (opV_move rfl) rfl rfl rfl ?_
    refine doL_nil ?_
    refine post_again (vs.length + 1, vs ++ [r28]) (by refine ⟨?_, ?_, ?_⟩ <;> dsimp only; omega; rw [plR_take hzk, hvs, hr28, hr27]; simp) (by show np - (vs.length + 1) < np - vs.length; omega) (by dsimp only; rw [show np - (vs.length + 1) = m by omega]; try rfl) ?_ ?_ rfl
    repeat' first | exact trivial | exact True.intro | refine ⟨rfl, ?_⟩
  ·
    have h2 : vs.length = np := by have := of_decide_eq_false hc19; omega
    refine doC_exit ?_
    refine post_then_exit ?_
    refine post_then_exit ?_
    refine post_block_exit ?_
    refine post_then ?_
    refine doC_seq ?_
    refine doC_region ?_
    refine doL_v (opV_move rfl) rfl rfl rfl ?_
    refine doL_v (opV_assign rfl) rfl rfl rfl ?_
    refine doL_nil ?_
    refine post_then ?_
    refine doC_ret ?_
    refine post_ret (rs := [.tmp 4]) rfl (resC (resIs_tmp rfl) (resN)) rfl ?_
    intro w2 k2
    obtain ⟨_, q2, q3⟩ := k2.facts _ List.mem_cons_self
    refine ⟨b14, trivial, rfl, k2.grow, ownD _, slc_dep _ _ _, fun z hz => ?_, ?_⟩
    · obtain ⟨ad, h1, h2⟩ := hz
      cases h1
      subst h2
      exact ⟨(q2 _ rfl).1, (q2 _ rfl).2.1⟩
    · have q4 := rowsF_slc _ q3
      rw [List.take_of_length_le (by omega)] at hvs
      rw [hvs]
      simpa [plF, h2] using q4
end Go.Proofs.YtonampcmhhhffaaGreat
namespace Go.Proofs.YtonampcmhhhffaaGreat
open Go.Sx
theorem en28 : Enters Tryz.prog 28 := enters_of Tryz.func28 (by kernel_rfl) (by kernel_rfl)
theorem app32 : appB Tryz.prog 32 42 1 24 = true := by kernel_rfl
theorem ze42 : zeroIs Tryz.prog 42 (.slice none 0 0) := by unfold zeroIs; kernel_rfl
theorem en31 : Enters Tryz.prog 31 := enters_of Tryz.func31 (by kernel_rfl) (by kernel_rfl)
theorem ty42 : tyB Tryz.prog 42 false 1 = true := by kernel_rfl
theorem kPoints  (aj am asp ak : Option Addr) (cj nm cm csp ck n ns nk : Nat) (js : List J) (l : List Ms) (ss : List Sp) (ds : List Ad) (rk : List (List Value)) (ab : Option Addr) (cb : Nat) (bx : List Iv) (hn : 1 ≤ n ∧ n ≤ 10) (hm : nm ≤ 32) (hjn : js.length = n) (hln : l.length = nm) (hsn : ss.length = ns) (hdn : ds.length = ns) (hns : ns ≤ 24) (hnk : nk ≤ 64) (hrk : rk.length = nk) (hJ : ∀ (i : Nat) (j : J), js[i]? = some j → JOK js i j) (hv : ∀ m ∈ l, MB n m) (hsp : ∀ s ∈ ss, SpOK n s) (hk2 : ∀ r ∈ rk, ∃ a b : Int, r = [.int .i64 a, .int .i64 b] ∧ (-1 ≤ a ∧ a < n) ∧ (-1 ≤ b ∧ b < n)) (hbn : bx.length = n) (hvb : ∀ a ∈ bx, Iv.valid a = true) (w : World) (hS : SlcIs 12 aj (js.map jc) w) (hM : SlcIs 5 am (l.map mc) w) (hSp : SlcIs 3 asp (spRows ss ds) w) (hPt : PtsF ss ds w) (hK : SlcIs 2 ak rk w) (hT : SlcIs 2 ab (bx.map ivc) w) : Calls Tryz.prog 7 [.agg #[.slice aj n cj, .slice am nm cm, .slice asp ns csp, .slice ak nk ck], .slice ab n cb].toArray w (RetsF (X := Nat × List Nat) (fun x => x.2.length = ns) (fun x => .slice (some ⟨x.1, 0, none⟩) ns ns) (fun x w => SlcIs 1 (some ⟨x.1, 0, none⟩) (plRows (ptsP (lks js bx n) ss) x.2) w ∧ PlF (ptsP (lks js bx n) ss) x.2 w) w) := by
  refine calls_of_doC (n := 53) Tryz.func7 rfl rfl rfl ?_
  refine doC_seq ?_
  refine doC_region ?_
  refine doL_box 2 rfl rfl rfl rfl ?_; intro b2
  refine doL_v (opV_assign rfl) rfl rfl rfl ?_
  refine doL_nil ?_
  refine post_then ?_
  refine doC_seq ?_
  refine doC_seq ?_
  refine doC_region ?_
  refine doL_v (opV_fieldAddr fa30_0 rfl) rfl rfl rfl ?_
  refine doL_v (opV_loadA 2 ty26 rfl rfl rfl) rfl rfl rfl ?_
  refine doL_v (opV_move rfl) rfl rfl rfl ?_
  refine doL_vg (F := vB) (opV_call en27 rfl (fun w' k => kIsBox aj am ab cj nm cm cb n bx (by omega) hbn hvb w' (slc_grow hT k.grow))) rfl rfl rfl ?_; intro r13 hr13
  refine doL_v (opV_not rfl) rfl rfl rfl ?_
  refine doL_v (opV_move rfl) rfl rfl rfl ?_
  refine doL_false 15 rfl (by rw [hr13]; rfl) ?_
  refine doL_v (opV_loadA 2 ty30 rfl rfl rfl) rfl rfl rfl ?_
  refine doL_vg (F := vI) (opV_call en28 rfl (fun w' k => sCheck aj am asp ak cj nm cm csp ck n ns nk js l ss ds rk hn hm hjn hln hsn hdn hns hnk hrk hJ hv hsp hk2 w' (slc_grow hS k.grow) (slc_grow hM k.grow) (slc_grow hSp k.grow) (PtsF_grow _ _ hPt k.grow) (slc_grow hK k.grow))) rfl rfl rfl ?_; intro r17 hr17
  refine doL_v (opV_neq rfl rfl) rfl rfl rfl ?_
  refine doL_v (opV_pick_f rfl rfl rfl rfl) rfl rfl rfl ?_
  refine doL_nil ?_
  refine post_then ?_
  refine doC_cond_f rfl (by rw [hr17]; rfl) ?_
  refine doC_skip ?_
  refine post_then ?_
  refine doC_seq ?_
  refine doC_region ?_
  refine doL_v (opV_fieldAddr fa30_0 rfl) rfl rfl rfl ?_
  refine doL_v (opV_loadA 2 ty26 rfl rfl rfl) rfl rfl rfl ?_
  refine doL_v (opV_move rfl) rfl rfl rfl ?_
  refine doL_told 23 en29 rfl (fun w' k => kLinks aj am ab cj nm cm cb n js bx (by omega) hjn hbn (fun i j hj => by obtain ⟨_, _, _, _, _, _, _, h, _⟩ := hJ i j hj; exact h) w' (slc_grow hS k.grow) (slc_grow hT k.grow)) rfl rfl ?_; intro x23 Dx23 _
  refine doL_v (opV_assign rfl) rfl rfl rfl ?_
  refine doL_nil ?_
  refine post_then ?_
  refine doC_seq ?_
  refine doC_region ?_
  refine doL_v (opV_fieldAddr fa30_1 rfl) rfl rfl rfl ?_
  refine doL_v (opV_load1 2 ty27 rfl rfl rfl) rfl rfl rfl ?_
  refine doL_v (opV_len_slice sl27 rfl) rfl rfl rfl ?_
  refine doL_make 27 (makeB_of app32 ze42) rfl (by omega) (by omega) rfl rfl ?_; intro b27
  refine doL_v (opV_assign rfl) rfl rfl rfl ?_
  refine doL_nil ?_
  refine post_then ?_
  refine doC_seq ?_
  refine doC_seq ?_
  refine doC_fact 200 (PlF [] []) (fun _ => trivial) ?_
  refine doC_region ?_
  refine doL_v (opV_fieldAddr fa30_1 rfl) rfl rfl rfl ?_
  refine doL_v (opV_load1 2 ty27 rfl rfl rfl) rfl rfl rfl ?_
  refine doL_v (opV_len_slice sl27 rfl) rfl rfl rfl ?_
  refine doL_v (opV_move rfl) rfl rfl rfl ?_
  refine doL_nil ?_
  refine post_then ?_
  refine doC_block ?_
  refine doC_loopK [2, 5, 6, 29, 30] [2] (α := Nat × List Nat × (Nat → Prop)) (fun x => ns - x.1) (fun x => x.1 ≤ ns ∧ x.2.1.length = x.1) (fun x => ⟨w, [(200, x.2.2, PlF (ptsP (lks js bx n) (ss.take x.1)) x.2.1), (27, (· = b27), RowsF b27 1 42 (lsR (ptsP (lks js bx n) (ss.take x.1)) x.2.1 (ns - x.1))), (23, Dx23, SlcIs 24 (some ⟨x23, 0, none⟩) ((lks js bx n).map pc))]⟩) (fun x => [(31, .int .i64 (x.1 : Int))]) (fun _ => []) (0, [], fun _ => False) rfl rfl ?_ ?_ ?_ ?_ rfl ?_
  ·
    exact ⟨Nat.zero_le _, rfl⟩
  ·
    exact rfl
  ·
    repeat' first | exact trivial | exact True.intro | refine ⟨rfl, ?_⟩
  ·
    repeat' first | exact trivial | exact True.intro | refine ⟨rfl, ?_⟩
  rintro ⟨k, bs, D⟩ ⟨hk, hlen⟩
  dsimp only at hk hlen ⊢
  have hbs : bs.length = (ptsP (lks js bx n) (ss.take k)).length := by simp [ptsP, hlen]; omega
  have hpk : (ptsP (lks js bx n) (ss.take k)).length = k := by rw [← hbs, hlen]
  refine doC_seq ?_
  refine doC_region ?_
  refine doL_v (opV_lss rfl rfl) rfl rfl rfl ?_
  refine doL_nil ?_
  refine post_then ?_
  refine doC_seq ?_
  refine doC_cond rfl (fun hc32 => ?_) (fun hc32 => ?_)
  ·
    have h2 : k < ns := by have := of_decide_eq_true hc32; omega
    obtain ⟨s, hsk⟩ : ∃ s, ss[k]? = some s := ⟨_, List.getElem?_eq_getElem (by omega)⟩
    obtain ⟨d, hdk⟩ : ∃ d, ds[k]? = some d := ⟨_, List.getElem?_eq_getElem (by omega)⟩
    have hs := spRows_get ss ds k s d hsk hdk
    have hpt := PtsF_get ss ds k s d w hsk hdk hPt
    obtain ⟨o1, o2, o3, o4⟩ := hsp s (List.mem_of_getElem? hsk)
    obtain ⟨m, hm2⟩ : ∃ m, ns - k = m + 1 := ⟨ns - k - 1, by omega⟩
    rw [hm2]
    have hme := lsR_me (m := m) hbs
    rw [hpk] at hme
    refine doC_skip ?_
    refine post_then ?_
    refine doC_seq ?_
    refine doC_block ?_
    refine doC_seq ?_
    refine doC_region ?_
    refine doL_v (opV_move rfl) rfl rfl rfl ?_
    refine doL_v (opV_indexS (e := 41) (holds_base hSp) (by kernel_rfl) rfl rfl rfl hs h2) rfl rfl rfl ?_
    refine doL_v (opV_loadSA (vs := spc s d) k 0 (holds_base hSp) hs ty41 rfl rfl) rfl rfl rfl ?_
    refine doL_alloc 8 ze41 rfl rfl rfl ?_; intro b8
    refine doL_v (opV_assign rfl) rfl rfl rfl ?_
    refine doL_store 8 ty41 rfl rfl rfl rfl rfl rfl rfl rfl ?_
    refine doL_nil ?_
    refine post_then ?_
    refine doC_seq ?_
    refine doC_region ?_
    refine doL_vg (F := po) (opV_call en30 rfl (fun w _ => pIdentity   w)) rfl rfl rfl ?_; intro r36 hr36
    refine doL_alloc 9 ze66 rfl rfl rfl ?_; intro b9
    refine doL_store 9 ty66 rfl rfl rfl rfl rfl rfl rfl rfl ?_
    refine doL_nil ?_
    refine post_then ?_
    refine doC_seq ?_
    refine doC_seq ?_
    refine doC_region ?_
    refine doL_v (opV_fieldAddr fa41_0 rfl) rfl rfl rfl ?_
    refine doL_v (opV_load1 8 ty3 rfl rfl rfl) rfl rfl rfl ?_
    refine doL_v (opV_neq rfl rfl) rfl rfl rfl ?_
    refine doL_nil ?_
    refine post_then ?_
    refine doC_cond rfl (fun hc39 => ?_) (fun hc39 => ?_)
    ·
      have hp : ¬ s.link = -1 := by simpa using hc39
      obtain ⟨pp, hpp⟩ : ∃ pp, (lks js bx n)[s.link.toNat]? = some pp := ⟨_, List.getElem?_eq_getElem (by rw [lks_len _ (by omega) (by omega)]; omega)⟩
      have hpp2 : ((lks js bx n).map pc)[s.link.toNat]? = some (pc pp) := by rw [List.getElem?_map, hpp]; rfl
      have hpd : (lks js bx n).getD s.link.toNat Po.rest = pp := by rw [List.getD_eq_getElem?_getD, hpp]; rfl
      refine doC_region ?_
      refine doL_v (opV_move rfl) rfl rfl rfl ?_
      refine doL_v (opV_fieldAddr fa41_0 rfl) rfl rfl rfl ?_
      refine doL_v (opV_load1 8 ty3 rfl rfl rfl) rfl rfl rfl ?_
      refine doL_v (opV_indexS (e := 66) (holds_r (id := 23) rfl) (by kernel_rfl) rfl rfl (show s.link = ((s.link.toNat : Nat) : Int) by omega) hpp2 (by omega)) rfl rfl rfl ?_
      refine doL_v (opV_loadSA (vs := pc pp) s.link.toNat 0 (holds_r (id := 23) rfl) hpp2 ty66 rfl rfl) rfl rfl rfl ?_
      refine doL_store 9 ty66 rfl rfl rfl rfl rfl rfl rfl rfl ?_
      refine doL_nil ?_
      refine post_then ?_
      refine doC_region ?_
      refine doL_v (opV_move rfl) rfl rfl rfl ?_
      refine doL_v (opV_move rfl) rfl rfl rfl ?_
      refine doL_v (opV_loadA 8 ty41 rfl rfl rfl) rfl rfl rfl ?_
      refine doL_v (opV_loadA 9 ty66 rfl rfl rfl) rfl rfl rfl ?_
      refine doL_told 49 en31 rfl (fun w' k => shPlace s.link s.radius d.1 s.pts.length d.2 s.pts pp rfl o2 o3 o4 w' (slc_grow hpt k.grow)) rfl rfl ?_; intro x49 Dx49 _
      refine doL_v (opV_indexS (e := 42) ((holds_r (id := 27) rfl).imp rowsF_slc) (by kernel_rfl) rfl rfl rfl hme h2) rfl rfl rfl ?_
      refine doL_storeRowV (vs := plc (plR pp s.pts) x49) (j := k) 27 ty42 rfl rfl rfl (by simp [lsR, plRows_len _ _ hbs]; omega) (by simp [plc, plR, Value.cells]) rfl rfl rfl rfl ?_; intro R49 hR49
      obtain rfl := Option.some.inj hR49
      have hset := lsR_set (m := m) (plR pp s.pts) x49 hbs
      rw [hpk] at hset
      rw [hset]
      refine doL_nil ?_
      refine post_block_normal ?_
      refine post_then ?_
      refine doC_merge 200 (PlF ((ptsP (lks js bx n) (ss.take k)) ++ [plR pp s.pts]) (bs ++ [x49])) rfl rfl (fun h1 h2 => PlF_dep hbs h1 h2) (fun w h1 h2 => PlF_snoc _ bs _ x49 w hbs h2 h1) ?_
      refine doC_region ?_
      refine doL_v (opV_add rfl rfl (inc_nat (by omega))) rfl rfl rfl ?_
      refine doL_v (opV_move rfl) rfl rfl rfl ?_
      refine doL_nil ?_
      refine post_again (k + 1, bs ++ [x49], fun z => Dx49 z ∨ D z) (by refine ⟨?_, ?_⟩ <;> dsimp only; omega; simp [hlen]) (by show ns - (k + 1) < ns - k; omega) (by dsimp only; rw [show ns - (k + 1) = m by omega, ptsP_take hsk, show spP (lks js bx n) s = pp from (if_neg hp).trans hpd]; try rfl) ?_ ?_ rfl
      repeat' first | exact trivial | exact True.intro | refine ⟨rfl, ?_⟩
    ·
      have hp : s.link = -1 := by simpa using hc39
      obtain ⟨pp, hpq⟩ : ∃ q, q = r36 := ⟨_, rfl⟩
      subst hpq
      refine doC_skip ?_
      refine post_then ?_
      refine doC_region ?_
      refine doL_v (opV_move rfl) rfl rfl rfl ?_
      refine doL_v (opV_move rfl) rfl rfl rfl ?_
      refine doL_v (opV_loadA 8 ty41 rfl rfl rfl) rfl rfl rfl ?_
      refine doL_v (opV_loadA 9 ty66 rfl rfl rfl) rfl rfl rfl ?_
      refine doL_told 49 en31 rfl (fun w' k => shPlace s.link s.radius d.1 s.pts.length d.2 s.pts pp rfl o2 o3 o4 w' (slc_grow hpt k.grow)) rfl rfl ?_; intro x49 Dx49 _
      refine doL_v (opV_indexS (e := 42) ((holds_r (id := 27) rfl).imp rowsF_slc) (by kernel_rfl) rfl rfl rfl hme h2) rfl rfl rfl ?_
      refine doL_storeRowV (vs := plc (plR pp s.pts) x49) (j := k) 27 ty42 rfl rfl rfl (by simp [lsR, plRows_len _ _ hbs]; omega) (by simp [plc, plR, Value.cells]) rfl rfl rfl rfl ?_; intro R49 hR49
      obtain rfl := Option.some.inj hR49
      have hset := lsR_set (m := m) (plR pp s.pts) x49 hbs
      rw [hpk] at hset
      rw [hset]
      refine doL_nil ?_
      refine post_block_normal ?_
      refine post_then ?_
      refine doC_merge 200 (PlF ((ptsP (lks js bx n) (ss.take k)) ++ [plR pp s.pts]) (bs ++ [x49])) rfl rfl (fun h1 h2 => PlF_dep hbs h1 h2) (fun w h1 h2 => PlF_snoc _ bs _ x49 w hbs h2 h1) ?_
      refine doC_region ?_
      refine doL_v (opV_add rfl rfl (inc_nat (by omega))) rfl rfl rfl ?_
      refine doL_v (opV_move rfl) rfl rfl rfl ?_
      refine doL_nil ?_
      refine post_again (k + 1, bs ++ [x49], fun z => Dx49 z ∨ D z) (by refine ⟨?_, ?_⟩ <;> dsimp only; omega; simp [hlen]) (by show ns - (k + 1) < ns - k; omega) (by dsimp only; rw [show ns - (k + 1) = m by omega, ptsP_take hsk, show spP (lks js bx n) s = pp from (if_pos hp).trans hr36.symm]; try rfl) ?_ ?_ rfl
      repeat' first | exact trivial | exact True.intro | refine ⟨rfl, ?_⟩
  ·
    obtain rfl : k = ns := by have := of_decide_eq_false hc32; omega
    refine doC_exit ?_
    refine post_then_exit ?_
    refine post_then_exit ?_
    refine post_block_exit ?_
    refine post_then ?_
    refine doC_seq ?_
    refine doC_region ?_
    refine doL_v (opV_move rfl) rfl rfl rfl ?_
    refine doL_v (opV_assign rfl) rfl rfl rfl ?_
    refine doL_nil ?_
    refine post_then ?_
    refine doC_ret ?_
    refine post_ret (rs := [.tmp 4]) rfl (resC (resIs_tmp rfl) (resN)) rfl ?_
    intro w2 k2
    obtain ⟨p1, p2, p3⟩ := k2.facts _ List.mem_cons_self
    obtain ⟨_, q2, q3⟩ := k2.facts _ (List.mem_cons_of_mem _ List.mem_cons_self)
    have hts : ss.take k = ss := List.take_of_length_le (by omega)
    rw [hts] at p1 p3 q3
    refine ⟨(b27, bs), hlen, rfl, k2.grow, told_and ⟨ownD _, slc_dep _ _ _, fun z hz => ?_, ?_⟩ ⟨_, p1, fun z hz => ⟨(p2 z hz).1, (p2 z hz).2.1⟩, p3⟩⟩
    · obtain ⟨ad, h1, h2⟩ := hz
      cases h1
      subst h2
      exact ⟨(q2 _ rfl).1, (q2 _ rfl).2.1⟩
    · have q4 := rowsF_slc _ q3
      simpa [lsR] using q4
end Go.Proofs.YtonampcmhhhffaaGreat
namespace Go.Proofs.YtonampcmhhhffaaGreat
open Go.Sx Go.RowKit
theorem made_ns (l : List Int) : (shB l (obN l)).1.length ≤ 6 := by
  have h1 := shB_len l (obN l)
  have h2 := nJ_b l 0
  have h3 := obN_b l
  omega
theorem madePoints {l : List Int} {x : ScX} {ab : Option Addr} {cb : Nat} {bx : List Iv} (w : World) (hx : scP l x) (hb : bx.length = nJ l 0) (hv : ∀ a ∈ bx, Iv.valid a = true) (hF : scF l x w) (hT : SlcIs 2 ab (bx.map ivc) w) :
    Calls Tryz.prog 7 [scV l x, .slice ab (nJ l 0) cb].toArray w (RetsF (X := Nat × List Nat) (fun y => y.2.length = (shB l (obN l)).1.length) (fun y => .slice (some ⟨y.1, 0, none⟩) (shB l (obN l)).1.length (shB l (obN l)).1.length)
      (fun y w => SlcIs 1 (some ⟨y.1, 0, none⟩) (plRows (ptsP (lks (jsOf l 0 (nJ l 0)).1 bx (nJ l 0)) (shB l (obN l)).1) y.2) w ∧ PlF (ptsP (lks (jsOf l 0 (nJ l 0)).1 bx (nJ l 0)) (shB l (obN l)).1) y.2 w) w) := by
  have hn := nJ_b l 0
  have hm := nM_b l 0
  have hs := made_ns l
  obtain ⟨k1, k2, k3⟩ := skR_ok l
  obtain ⟨⟨f1, f2⟩, ⟨f3, f4⟩, f5⟩ := hF
  exact kPoints x.1.1 x.2.1.1 x.2.2.1.1 x.2.2.2.1.1 x.1.2 (nM l 0) x.2.1.2 x.2.2.1.2 x.2.2.2.1.2 (nJ l 0) (shB l (obN l)).1.length (skN l) (jsOf l 0 (nJ l 0)).1 (msOf l 0 (nM l 0)) (shB l (obN l)).1 x.2.2.2.2 (skR l) ab cb bx
    (by omega) (by omega) (jsOf_len _ _ _) (msOf_len _ _ _) rfl hx (by omega) k2 k1 (fun i j h => made_JOK l 0 (nJ l 0) hn.2.1 i j h) (fun m h => msOf_get l 0 _ m h) (shB_ok l _) k3 hb hv w f1 f2 f3 f4 f5 hT
end Go.Proofs.YtonampcmhhhffaaGreat
namespace Go.Proofs.YtonampcmhhhffaaGreat
open Go.Sx
theorem en44 : Enters Tryz.prog 44 := enters_of Tryz.func44 (by kernel_rfl) (by kernel_rfl)
theorem partC (a0 a1 : Int) (i : Int) (j : Int) (hv : Ok (⟨a0, a1⟩ : Iv)) (w : World) : Calls Tryz.prog 44 [.agg #[.int .i64 a0, .int .i64 a1], .int .i64 i, .int .i64 j].toArray w (Rets (iv (partI (⟨a0, a1⟩ : Iv) i j)) (w)) := by
  refine calls_of_doC (n := 42) Tryz.func44 rfl rfl rfl ?_
  refine doC_seq ?_
  unfold Ok at hv; simp only at hv
  refine doC_region ?_
  refine doL_box 3 rfl rfl rfl rfl ?_; intro b3
  refine doL_alloc 6 ze44 rfl rfl rfl ?_; intro b6
  refine doL_nil ?_
  refine post_then ?_
  refine doC_seq ?_
  refine doC_region ?_
  refine doL_v (opV_fieldAddr fa44_1 rfl) rfl rfl rfl ?_
  refine doL_v (opV_load1 3 ty2 rfl rfl rfl) rfl rfl rfl ?_
  refine doL_v (opV_fieldAddr fa44_0 rfl) rfl rfl rfl ?_
  refine doL_v (opV_load1 3 ty2 rfl rfl rfl) rfl rfl rfl ?_
  refine doL_v (opV_sub rfl rfl (by first | exact i64_in ⟨by omega, by omega⟩ | rfl)) rfl rfl rfl ?_
  refine doL_v (opV_add rfl rfl (by first | exact i64_in ⟨by omega, by omega⟩ | rfl)) rfl rfl rfl ?_
  refine doL_v (opV_assign rfl) rfl rfl rfl ?_
  refine doL_nil ?_
  refine post_then ?_
  refine doC_seq ?_
  refine doC_drawn 6 mo (by kernel_rfl) ?_
  simp only [List.take_succ_cons, List.take_zero, List.drop_succ_cons, List.drop_zero]
  refine doG_v (opV_fieldAddr fa44_0 rfl) rfl rfl rfl ?_
  refine doG_v (opV_load1 3 ty2 rfl rfl rfl) rfl rfl rfl ?_
  refine doG_v (opV_move rfl) rfl rfl rfl ?_
  refine doG_v (opV_move rfl) rfl rfl rfl ?_
  refine doG_vg (F := vI) (opV_call en10 rfl (fun w _ => mRound _ _ (by first | omega | assumption | (unfold In64; omega) | decide) w)) rfl rfl rfl ?_; intro r20 hr20
  have qr20 := Int.emod_nonneg i (show a1 - a0 + 1 ≠ 0 by omega)
  have pr20 := Int.emod_lt_of_pos i (show 0 < a1 - a0 + 1 by omega)
  refine doG_v (opV_add rfl rfl (by first | exact i64_in ⟨by omega, by omega⟩ | rfl)) rfl rfl rfl ?_
  refine doG_nil ?_
  refine tail_nil ?_
  refine doL_v (opV_assign rfl) rfl rfl rfl ?_
  refine doL_nil ?_
  refine post_then ?_
  refine doC_seq ?_
  refine doC_seq ?_
  refine doC_region ?_
  refine doL_v (opV_move rfl) rfl rfl rfl ?_
  refine doL_v (opV_and rfl rfl and_1) rfl rfl rfl ?_
  refine doL_v (opV_eql rfl rfl) rfl rfl rfl ?_
  refine doL_nil ?_
  refine post_then ?_
  refine doC_cond rfl (fun hc24 => ?_) (fun hc24 => ?_)
  ·
    refine doC_seq ?_
    refine doC_region ?_
    refine doL_v (opV_move rfl) rfl rfl rfl ?_
    refine doL_v (opV_move rfl) rfl rfl rfl ?_
    refine doL_v (opV_build la44 rfl rfl) rfl rfl rfl ?_
    refine doL_store 6 ty44 rfl rfl rfl rfl rfl rfl rfl rfl ?_
    refine doL_nil ?_
    refine post_then ?_
    refine doC_ret ?_
    refine post_then_ret ?_
    refine post_rets (rs := [.cell 6 44]) rfl (resC (resIs_cell 6 rfl rfl ty44 rfl) (resN)) (congrArg (iv) (?_ : ⟨_, _⟩ = partI (⟨a0, a1⟩ : Iv) i j))
    subst_vars; first | (simp_all [partI]; done) | (simp_all [partI] <;> omega) | grind [partI]
  ·
    refine doC_skip ?_
    refine post_then ?_
    refine doC_seq ?_
    refine doC_drawn 7 mo (by kernel_rfl) ?_
    simp only [List.take_succ_cons, List.take_zero, List.drop_succ_cons, List.drop_zero]
    refine doG_v (opV_fieldAddr fa44_0 rfl) rfl rfl rfl ?_
    refine doG_v (opV_load1 3 ty2 rfl rfl rfl) rfl rfl rfl ?_
    refine doG_v (opV_move rfl) rfl rfl rfl ?_
    refine doG_v (opV_shr rfl rfl (by first | decide | omega) shr_1) rfl rfl rfl ?_
    refine doG_v (opV_move rfl) rfl rfl rfl ?_
    refine doG_vg (F := vI) (opV_call en10 rfl (fun w _ => mRound _ _ (by first | omega | assumption | (unfold In64; omega) | decide) w)) rfl rfl rfl ?_; intro r33 hr33
    have qr33 := Int.emod_nonneg (j / 2) (show a1 - a0 + 1 ≠ 0 by omega)
    have pr33 := Int.emod_lt_of_pos (j / 2) (show 0 < a1 - a0 + 1 by omega)
    refine doG_v (opV_add rfl rfl (by first | exact i64_in ⟨by omega, by omega⟩ | rfl)) rfl rfl rfl ?_
    refine doG_nil ?_
    refine tail_nil ?_
    refine doL_v (opV_assign rfl) rfl rfl rfl ?_
    refine doL_nil ?_
    refine post_then ?_
    refine doC_seq ?_
    refine doC_region ?_
    refine doL_v (opV_move rfl) rfl rfl rfl ?_
    refine doL_v (opV_move rfl) rfl rfl rfl ?_
    refine doL_v (opV_min2 rfl rfl) rfl rfl rfl ?_
    refine doL_v (opV_move rfl) rfl rfl rfl ?_
    refine doL_v (opV_move rfl) rfl rfl rfl ?_
    refine doL_v (opV_max2 rfl rfl) rfl rfl rfl ?_
    refine doL_v (opV_build la44 rfl rfl) rfl rfl rfl ?_
    refine doL_store 6 ty44 rfl rfl rfl rfl rfl rfl rfl rfl ?_
    refine doL_nil ?_
    refine post_then ?_
    refine doC_ret ?_
    refine post_rets (rs := [.cell 6 44]) rfl (resC (resIs_cell 6 rfl rfl ty44 rfl) (resN)) (congrArg (iv) (?_ : ⟨_, _⟩ = partI (⟨a0, a1⟩ : Iv) i j))
    subst_vars; first | (simp_all [partI]; done) | (simp_all [partI] <;> omega) | grind [partI]
theorem mkWithin (lv : Value) (l : List Int) (ab : Option Addr) (n cb : Nat) (bs : List Iv) (hn : n ≤ 1000) (hbn : bs.length = n) (hv : ∀ a ∈ bs, Ok a) (w : World) (hl : IntsAt w w.heap.size lv l) (hT : SlcIs 2 ab (bs.map ivc) w) : Calls Tryz.prog 18 [.slice ab n cb, lv].toArray w (RetsF (X := Option Addr × Nat) (fun _ => True) (fun x => .slice x.1 n x.2) (fun x => SlcIs 2 x.1 ((wths l bs n).map ivc)) w) := by
  refine calls_of_doC (n := 29) Tryz.func18 rfl rfl rfl ?_
  refine doC_seq ?_
  refine doC_region ?_
  refine doL_v (opV_assign rfl) rfl rfl rfl ?_
  refine doL_nil ?_
  refine post_then ?_
  refine doC_seq ?_
  refine doC_region ?_
  refine doL_v (opV_move rfl) rfl rfl rfl ?_
  refine doL_callNew 9 en22 rfl (fun w' k => mFrom w' (intsAt_grow hl k.grow (Nat.le_refl _))) rfl rfl ?_; intro b9
  refine doL_v (opV_assign rfl) rfl rfl rfl ?_
  refine doL_nil ?_
  refine post_then ?_
  refine doC_seq ?_
  refine doC_region ?_
  refine doL_v (opV_assign rfl) rfl rfl rfl ?_
  refine doL_nil ?_
  refine post_then ?_
  refine doC_seq ?_
  refine doC_seq ?_
  refine doC_own 100 44 2 ?_
  refine doC_region ?_
  refine doL_v (opV_assign rfl) rfl rfl rfl ?_
  refine doL_nil ?_
  refine post_then ?_
  refine doC_block ?_
  refine doC_loopK [0, 5] [] (α := Nat × Option Addr × Nat × List Iv) (fun x => n - x.1) (fun x => x.1 ≤ n ∧ wths l bs x.1 = x.2.2.2 ∧ x.2.2.2.length = x.1) (fun x => ⟨w, [(100, ownD x.2.1, OwnF 0 44 2 x.2.1 x.2.2.1 x.1 (ivC x.2.2.2))]⟩) (fun x => [(6, .slice x.2.1 x.1 x.2.2.1), (7, .int .i64 (x.1 : Int))]) (fun x => [(9, b9, srcC lv l (2 * x.1), 98)]) (0, none, 0, []) rfl rfl ?_ ?_ ?_ ?_ rfl ?_
  ·
    exact ⟨Nat.zero_le _, rfl, rfl⟩
  ·
    exact rfl
  ·
    repeat' first | exact trivial | exact True.intro | refine ⟨rfl, ?_⟩
  ·
    repeat' first | exact trivial | exact True.intro | refine ⟨rfl, ?_⟩
  rintro ⟨k, a, cap, rows⟩ ⟨hk, hsh, hlen⟩
  dsimp only at hk hsh hlen ⊢
  refine doC_seq ?_
  refine doC_seq ?_
  refine doC_region ?_
  refine doL_v (opV_move rfl) rfl rfl rfl ?_
  refine doL_v (opV_move rfl) rfl rfl rfl ?_
  refine doL_v (opV_len_slice sl34 rfl) rfl rfl rfl ?_
  refine doL_v (opV_lss rfl rfl) rfl rfl rfl ?_
  refine doL_nil ?_
  refine post_then ?_
  refine doC_cond rfl (fun hc13 => ?_) (fun hc13 => ?_)
  ·
    have h2 : k < n := by have := of_decide_eq_true hc13; omega
    obtain ⟨x, hxk⟩ : ∃ x, bs[k]? = some x := ⟨_, List.getElem?_eq_getElem (by omega)⟩
    have hx : (bs.map ivc)[k]? = some (ivc x) := by rw [List.getElem?_map, hxk]; rfl
    have hvx := hv x (List.mem_of_getElem? hxk)
    refine doC_skip ?_
    refine post_then ?_
    refine doC_seq ?_
    refine doC_block ?_
    refine doC_srcB 9 11 [6, 8] rfl mo (by kernel_rfl) ?_
    simp only [List.take_succ_cons, List.take_zero, List.drop_succ_cons, List.drop_zero]
    refine doM_v (fun _ => opV_move rfl) rfl rfl rfl rfl ?_
    refine doM_v (fun _ => opV_move rfl) rfl rfl rfl rfl ?_
    refine doM_v (fun _ => opV_move rfl) rfl rfl rfl rfl ?_
    refine doM_v (fun _ => opV_indexS (e := 44) (holds_base hT) (by kernel_rfl) rfl rfl rfl hx h2) rfl rfl rfl rfl ?_
    refine doM_v (fun _ => opV_loadSA (vs := [.int .i64 x.lo, .int .i64 x.hi]) k 0 (holds_base hT) hx ty44 rfl rfl) rfl rfl rfl rfl ?_
    refine doM_v (fun _ => opV_move rfl) rfl rfl rfl rfl ?_
    refine doM_srcB (F := vI) 9 hl rfl en24 rfl (fun w' h => srcNext _ (by first | omega | assumption | (unfold In64; omega) | decide) w' h) rfl rfl rfl ?_; intro r22 hr22
    have br22 := srcR_b hr22 (by first | decide | omega)
    refine doM_v (fun _ => opV_move rfl) rfl rfl rfl rfl ?_
    refine doM_srcB (F := vI) 9 hl rfl en24 rfl (fun w' h => srcNext _ (by first | omega | assumption | (unfold In64; omega) | decide) w' h) rfl rfl rfl ?_; intro r24 hr24
    have br24 := srcR_b hr24 (by first | decide | omega)
    refine doM_vg (F := iv) (fun _ => opV_call en44 rfl (fun w _ => partC _ _ _ _ hvx w)) rfl rfl rfl rfl ?_; intro r25 hr25
    refine doM_bslice (famB (id := 9) rfl) sl34 ze44 rfl rfl rfl rfl rfl rfl rfl rfl rfl rfl ?_
    refine doM_nil ?_
    refine tail_heap rfl ?_
    refine tail_row ?_; intro bb26
    refine tail_append 100 app34 rfl rfl rfl rfl rfl rfl (by omega) (by omega) rfl rfl ?_; intro a27 c27 R27 hR27
    obtain rfl := Option.some.inj hR27
    refine doL_v (opV_assign rfl) rfl rfl rfl ?_
    refine doL_nil ?_
    refine post_block_normal ?_
    refine post_then ?_
    refine doC_region ?_
    refine doL_v (opV_move rfl) rfl rfl rfl ?_
    refine doL_v (opV_add rfl rfl (inc_nat (by omega))) rfl rfl rfl ?_
    refine doL_v (opV_assign rfl) rfl rfl rfl ?_
    refine doL_nil ?_
    refine post_again (k + 1, a27, c27, rows ++ [r25]) (by refine ⟨?_, ?_, ?_⟩ <;> dsimp only; omega; rw [wths_succ hxk, hsh, hr25, hr22, hr24]; simp [hlen]) (by show n - (k + 1) < n - k; omega) (by dsimp only; rw [ivC_snoc]; rfl) ?_ ?_ rfl
    repeat' first | exact trivial | exact True.intro | refine ⟨rfl, ?_⟩
  ·
    obtain rfl : k = n := by have := of_decide_eq_false hc13; omega
    refine doC_exit ?_
    refine post_then_exit ?_
    refine post_then_exit ?_
    refine post_block_exit ?_
    refine post_then ?_
    refine doC_seq ?_
    refine doC_region ?_
    refine doL_v (opV_move rfl) rfl rfl rfl ?_
    refine doL_v (opV_assign rfl) rfl rfl rfl ?_
    refine doL_nil ?_
    refine post_then ?_
    refine doC_ret ?_
    refine post_ret (rs := [.tmp 4]) rfl (resC (resIs_tmp rfl) (resN)) rfl ?_
    intro w2 k2
    obtain ⟨_, q2, q3⟩ := k2.facts _ List.mem_cons_self
    exact ⟨(a, cap), trivial, rfl, k2.grow, ownD a, slc_dep _ _ _, fun z hz => ⟨(q2 z hz).1, (q2 z hz).2.1⟩, by dsimp only; rw [hsh]; exact iv_slc hlen q3⟩
end Go.Proofs.YtonampcmhhhffaaGreat
namespace Go.Proofs.YtonampcmhhhffaaGreat
open Go.Sx
theorem en6 : Enters Tryz.prog 6 := enters_of Tryz.func6 (by kernel_rfl) (by kernel_rfl)
theorem en16 : Enters Tryz.prog 16 := enters_of Tryz.func16 (by kernel_rfl) (by kernel_rfl)
theorem en18 : Enters Tryz.prog 18 := enters_of Tryz.func18 (by kernel_rfl) (by kernel_rfl)
theorem en19 : Enters Tryz.prog 19 := enters_of Tryz.func19 (by kernel_rfl) (by kernel_rfl)
theorem en7 : Enters Tryz.prog 7 := enters_of Tryz.func7 (by kernel_rfl) (by kernel_rfl)
theorem sl60 : slcB Tryz.prog 60 66 24 = true := by kernel_rfl
theorem sl32 : slcB Tryz.prog 32 42 1 = true := by kernel_rfl
theorem en20 : Enters Tryz.prog 20 := enters_of Tryz.func20 (by kernel_rfl) (by kernel_rfl)
theorem sl42 : slcB Tryz.prog 42 46 6 = true := by kernel_rfl
theorem en15 : Enters Tryz.prog 15 := enters_of Tryz.func15 (by kernel_rfl) (by kernel_rfl)
theorem wKMono (lv : Value) (l : List Int) (ov : Value) (o : List Int) (pv : Value) (p : List Int) (w : World) (hl : IntsAt w w.heap.size lv l) (ho : IntsAt w w.heap.size ov o) (hp : IntsAt w w.heap.size pv p) : Calls Tryz.prog 5 [lv, ov, pv].toArray w (Rets (vB (true)) (w)) := by
  refine calls_of_doC (n := 141) Tryz.func5 rfl rfl rfl ?_
  refine doC_seq ?_
  refine doC_region ?_
  refine doL_v (opV_assign rfl) rfl rfl rfl ?_
  refine doL_nil ?_
  refine post_then ?_
  refine doC_seq ?_
  refine doC_region ?_
  refine doL_v (opV_move rfl) rfl rfl rfl ?_
  refine doL_told 18 en6 rfl (fun w' k => mkScene _ l w' (intsAt_grow hl k.grow k.grow.size)) rfl rfl ?_; intro x18 Dx18 _
  have hn := nJ_b l 0
  have hjl := jsOf_len l 0 (nJ l 0)
  have hnsl := made_ns l
  have hsp0 : scP l x18 := by assumption
  refine doL_alloc 7 ze30 rfl rfl rfl ?_; intro b7
  refine doL_store 7 ty30 rfl rfl rfl rfl rfl rfl rfl rfl ?_
  refine doL_nil ?_
  refine post_then ?_
  refine doC_seq ?_
  refine doC_region ?_
  refine doL_v (opV_fieldAddr fa30_0 rfl) rfl rfl rfl ?_
  refine doL_v (opV_loadA 7 ty26 rfl rfl rfl) rfl rfl rfl ?_
  refine doL_v (opV_move rfl) rfl rfl rfl ?_
  refine doL_told 22 en16 rfl (fun w' k => madeBox w' (intsAt_grow ho k.grow k.grow.size) (((holds_r (id := 18) rfl) _ _ k).1.1)) rfl rfl ?_; intro x22 Dx22 _
  have hbl : (bxs o (jsOf l 0 (nJ l 0)).1 (nJ l 0)).1.length = nJ l 0 := bxs_length (l := o) (js := (jsOf l 0 (nJ l 0)).1) (nJ l 0) (by omega)
  have hbv := bxs_valid (l := o) (js := (jsOf l 0 (nJ l 0)).1) (jsOf_b l 0 _) (nJ l 0)
  generalize (bxs o (jsOf l 0 (nJ l 0)).1 (nJ l 0)).1 = bx at *
  refine doL_v (opV_assign rfl) rfl rfl rfl ?_
  refine doL_nil ?_
  refine post_then ?_
  refine doC_seq ?_
  refine doC_region ?_
  refine doL_v (opV_move rfl) rfl rfl rfl ?_
  refine doL_v (opV_move rfl) rfl rfl rfl ?_
  refine doL_told 25 en18 rfl (fun w' k => mkWithin pv p x22.1 (nJ l 0) x22.2 bx (by omega) hbl (fun a ha => ok_of (hbv a ha)) w' (intsAt_grow hp k.grow k.grow.size) ((holds_r (id := 22) rfl) _ _ k)) rfl rfl ?_; intro x25 Dx25 _
  have hsub : BSub (wths p bx (nJ l 0)) bx := by have := wths_sub (l := p) (bs := bx) (fun a ha => ok_of (hbv a ha)); rw [hbl] at this; exact this
  have hal : (wths p bx (nJ l 0)).length = nJ l 0 := hsub.1.trans hbl
  have hav := hsub.valid
  generalize wths p bx (nJ l 0) = ax at *
  refine doL_v (opV_assign rfl) rfl rfl rfl ?_
  refine doL_nil ?_
  refine post_then ?_
  refine doC_seq ?_
  refine doC_drawn 8 mo (by kernel_rfl) ?_
  simp only [List.take_succ_cons, List.take_zero, List.drop_succ_cons, List.drop_zero]
  refine doG_v (opV_fieldAddr fa30_0 rfl) rfl rfl rfl ?_
  refine doG_v (opV_loadA 7 ty26 rfl rfl rfl) rfl rfl rfl ?_
  refine doG_v (opV_move rfl) rfl rfl rfl ?_
  refine doG_told en19 rfl (fun w' k => madeLinks w' hal hav (((holds_r (id := 18) rfl) _ _ k).1.1) (((holds_r (id := 18) rfl) _ _ k).1.2) ((holds_r (id := 25) rfl) _ _ k)) rfl rfl rfl ?_
  refine doG_v (opV_fieldAddr fa30_0 rfl) rfl rfl rfl ?_
  refine doG_v (opV_loadA 7 ty26 rfl rfl rfl) rfl rfl rfl ?_
  refine doG_v (opV_move rfl) rfl rfl rfl ?_
  refine doG_told en19 rfl (fun w' k => madeLinks w' hbl hbv (((holds_r (id := 18) rfl) _ _ k).1.1) (((holds_r (id := 18) rfl) _ _ k).1.2) ((holds_r (id := 22) rfl) _ _ k)) rfl rfl rfl ?_
  refine doG_nil ?_
  refine tail_tell2 33 rfl rfl rfl ?_; intro x33 x29 D33 _ _
  refine tail_nil ?_
  refine doL_v (opV_assign rfl) rfl rfl rfl ?_
  refine doL_v (opV_assign rfl) rfl rfl rfl ?_
  refine doL_nil ?_
  refine post_then ?_
  refine doC_seq ?_
  refine doC_drawn 6 mo (by kernel_rfl) ?_
  simp only [List.take_succ_cons, List.take_zero, List.drop_succ_cons, List.drop_zero]
  refine doG_v (opV_loadA 7 ty30 rfl rfl rfl) rfl rfl rfl ?_
  refine doG_v (opV_move rfl) rfl rfl rfl ?_
  refine doG_told en7 rfl (fun w' k => madePoints (x := x18) w' hsp0 hal hav ((holds_r (id := 18) rfl) _ _ k) ((holds_r (id := 25) rfl) _ _ k)) rfl rfl rfl ?_
  refine doG_v (opV_loadA 7 ty30 rfl rfl rfl) rfl rfl rfl ?_
  refine doG_v (opV_move rfl) rfl rfl rfl ?_
  refine doG_told en7 rfl (fun w' k => madePoints (x := x18) w' hsp0 hbl hbv ((holds_r (id := 18) rfl) _ _ k) ((holds_r (id := 22) rfl) _ _ k)) rfl rfl rfl ?_
  refine doG_nil ?_
  refine tail_tell2 39 rfl rfl rfl ?_; intro x39 x36 D39 _ _
  refine tail_nil ?_
  refine doL_v (opV_assign rfl) rfl rfl rfl ?_
  refine doL_v (opV_assign rfl) rfl rfl rfl ?_
  refine doL_nil ?_
  refine post_then ?_
  refine doC_seq ?_
  refine doC_seq ?_
  have hx36 : x36.2.length = (shB l (obN l)).1.length := by assumption
  have hx39 : x39.2.length = (shB l (obN l)).1.length := by assumption
  have hls := sub_lks (js := (jsOf l 0 (nJ l 0)).1) hsub (nJ l 0)
  have hlal : (lks (jsOf l 0 (nJ l 0)).1 ax (nJ l 0)).length = nJ l 0 := lks_len _ (by omega) (by omega)
  have hlbl : (lks (jsOf l 0 (nJ l 0)).1 bx (nJ l 0)).length = nJ l 0 := lks_len _ (by omega) (by omega)
  have hval : (ptsP (lks (jsOf l 0 (nJ l 0)).1 ax (nJ l 0)) (shB l (obN l)).1).length = (shB l (obN l)).1.length := by simp [ptsP]
  have hvbl : (ptsP (lks (jsOf l 0 (nJ l 0)).1 bx (nJ l 0)) (shB l (obN l)).1).length = (shB l (obN l)).1.length := by simp [ptsP]
  refine doC_region ?_
  refine doL_v (opV_move rfl) rfl rfl rfl ?_
  refine doL_v (opV_len_slice sl60 rfl) rfl rfl rfl ?_
  refine doL_v (opV_move rfl) rfl rfl rfl ?_
  refine doL_v (opV_len_slice sl34 rfl) rfl rfl rfl ?_
  refine doL_v (opV_neq rfl rfl) rfl rfl rfl ?_
  refine doL_v (opV_move rfl) rfl rfl rfl ?_
  refine doL_false 45 rfl (by simp) ?_
  refine doL_v (opV_move rfl) rfl rfl rfl ?_
  refine doL_v (opV_len_slice sl60 rfl) rfl rfl rfl ?_
  refine doL_v (opV_move rfl) rfl rfl rfl ?_
  refine doL_v (opV_len_slice sl34 rfl) rfl rfl rfl ?_
  refine doL_v (opV_neq rfl rfl) rfl rfl rfl ?_
  refine doL_v (opV_pick_f rfl rfl rfl rfl) rfl rfl rfl ?_
  refine doL_v (opV_move rfl) rfl rfl rfl ?_
  refine doL_false 52 rfl (by simp) ?_
  refine doL_v (opV_move rfl) rfl rfl rfl ?_
  refine doL_v (opV_len_slice sl32 rfl) rfl rfl rfl ?_
  refine doL_v (opV_fieldAddr fa30_1 rfl) rfl rfl rfl ?_
  refine doL_v (opV_load1 7 ty27 rfl rfl rfl) rfl rfl rfl ?_
  refine doL_v (opV_len_slice sl27 rfl) rfl rfl rfl ?_
  refine doL_v (opV_neq rfl rfl) rfl rfl rfl ?_
  refine doL_v (opV_pick_f rfl rfl rfl rfl) rfl rfl rfl ?_
  refine doL_v (opV_move rfl) rfl rfl rfl ?_
  refine doL_false 60 rfl (by simp) ?_
  refine doL_v (opV_move rfl) rfl rfl rfl ?_
  refine doL_v (opV_len_slice sl32 rfl) rfl rfl rfl ?_
  refine doL_v (opV_move rfl) rfl rfl rfl ?_
  refine doL_v (opV_len_slice sl32 rfl) rfl rfl rfl ?_
  refine doL_v (opV_neq rfl rfl) rfl rfl rfl ?_
  refine doL_v (opV_pick_f rfl rfl rfl rfl) rfl rfl rfl ?_
  refine doL_nil ?_
  refine post_then ?_
  refine doC_cond_f rfl (by simp) ?_
  refine doC_skip ?_
  refine post_then ?_
  refine doC_seq ?_
  refine doC_seq ?_
  refine doC_region ?_
  refine doL_v (opV_assign rfl) rfl rfl rfl ?_
  refine doL_nil ?_
  refine post_then ?_
  refine doC_block ?_
  refine doC_loopK [7, 10, 11, 12, 13] [7] (α := Nat) (fun x => nJ l 0 - x) (fun x => x ≤ nJ l 0) (fun _ => _) (fun x => [(14, .int .i64 (x : Int))]) (fun _ => []) 0 rfl rfl ?_ rfl ?_ ?_ rfl ?_
  ·
    exact Nat.zero_le _
  ·
    repeat' first | exact trivial | exact True.intro | refine ⟨rfl, ?_⟩
  ·
    repeat' first | exact trivial | exact True.intro | refine ⟨rfl, ?_⟩
  rintro i hi
  try dsimp only at hi ⊢
  refine doC_seq ?_
  refine doC_seq ?_
  refine doC_region ?_
  refine doL_v (opV_move rfl) rfl rfl rfl ?_
  refine doL_v (opV_move rfl) rfl rfl rfl ?_
  refine doL_v (opV_len_slice sl60 rfl) rfl rfl rfl ?_
  refine doL_v (opV_lss rfl rfl) rfl rfl rfl ?_
  refine doL_nil ?_
  refine post_then ?_
  refine doC_cond rfl (fun hc70 => ?_) (fun hc70 => ?_)
  ·
    have h2 : i < nJ l 0 := by have := of_decide_eq_true hc70; omega
    obtain ⟨pp, hpp⟩ : ∃ pp, (lks (jsOf l 0 (nJ l 0)).1 ax (nJ l 0))[i]? = some pp := ⟨_, List.getElem?_eq_getElem (by omega)⟩
    obtain ⟨qq, hqq⟩ : ∃ qq, (lks (jsOf l 0 (nJ l 0)).1 bx (nJ l 0))[i]? = some qq := ⟨_, List.getElem?_eq_getElem (by omega)⟩
    have hpp2 : ((lks (jsOf l 0 (nJ l 0)).1 ax (nJ l 0)).map pc)[i]? = some (pc pp) := by rw [List.getElem?_map, hpp]; rfl
    have hqq2 : ((lks (jsOf l 0 (nJ l 0)).1 bx (nJ l 0)).map pc)[i]? = some (pc qq) := by rw [List.getElem?_map, hqq]; rfl
    have hps := hls.2 i pp qq hpp hqq
    refine doC_skip ?_
    refine post_then ?_
    refine doC_seq ?_
    refine doC_block ?_
    refine doC_seq ?_
    refine doC_drawn 9 mo (by kernel_rfl) ?_
    simp only [List.take_succ_cons, List.take_zero, List.drop_succ_cons, List.drop_zero]
    refine doG_v (opV_move rfl) rfl rfl rfl ?_
    refine doG_v (opV_move rfl) rfl rfl rfl ?_
    refine doG_v (opV_indexS (e := 66) ((holds_r (id := 33) rfl).imp fun _ h => h.2) (by kernel_rfl) rfl rfl rfl hpp2 h2) rfl rfl rfl ?_
    refine doG_v (opV_loadSA (vs := pc pp) i 0 ((holds_r (id := 33) rfl).imp fun _ h => h.2) hpp2 ty66 rfl rfl) rfl rfl rfl ?_
    refine doG_v (opV_move rfl) rfl rfl rfl ?_
    refine doG_v (opV_move rfl) rfl rfl rfl ?_
    refine doG_v (opV_indexS (e := 66) ((holds_r (id := 33) rfl).imp fun _ h => h.1) (by kernel_rfl) rfl rfl rfl hqq2 h2) rfl rfl rfl ?_
    refine doG_v (opV_loadSA (vs := pc qq) i 0 ((holds_r (id := 33) rfl).imp fun _ h => h.1) hqq2 ty66 rfl rfl) rfl rfl rfl ?_
    refine doG_vg (F := vB) (opV_call en20 rfl (fun w _ => qWithin _ _ _ _ _ _ _ _ _ _ _ _ _ _ _ _ _ _ _ _ _ _ _ _ _ _ _ _ _ _ _ _ _ _ _ _ _ _ _ _ _ _ _ _ _ _ _ _  w)) rfl rfl rfl ?_; intro r81 hr81
    refine doG_nil ?_
    refine tail_nil ?_
    refine doL_v (opV_not rfl) rfl rfl rfl ?_
    refine doL_nil ?_
    refine post_then ?_
    refine doC_cond_f rfl (by rw [show r81 = true from hr81.trans hps.within]; rfl) ?_
    refine doC_skip ?_
    refine post_block_normal ?_
    refine post_then ?_
    refine doC_region ?_
    refine doL_v (opV_move rfl) rfl rfl rfl ?_
    refine doL_v (opV_add rfl rfl (inc_nat (by omega))) rfl rfl rfl ?_
    refine doL_v (opV_assign rfl) rfl rfl rfl ?_
    refine doL_nil ?_
    refine post_again (i + 1) (by show i + 1 ≤ nJ l 0; omega) (by show nJ l 0 - (i + 1) < nJ l 0 - i; omega) rfl ?_ ?_ rfl
    repeat' first | exact trivial | exact True.intro | refine ⟨rfl, ?_⟩
  ·
    refine doC_exit ?_
    refine post_then_exit ?_
    refine post_then_exit ?_
    refine post_block_exit ?_
    refine post_then ?_
    refine doC_seq ?_
    refine doC_seq ?_
    refine doC_region ?_
    refine doL_v (opV_assign rfl) rfl rfl rfl ?_
    refine doL_nil ?_
    refine post_then ?_
    refine doC_block ?_
    refine doC_loopK [7, 12, 13] [7] (α := Nat) (fun x => (shB l (obN l)).1.length - x) (fun x => x ≤ (shB l (obN l)).1.length) (fun _ => _) (fun x => [(15, .int .i64 (x : Int))]) (fun _ => []) 0 rfl rfl ?_ rfl ?_ ?_ rfl ?_
    ·
      exact Nat.zero_le _
    ·
      repeat' first | exact trivial | exact True.intro | refine ⟨rfl, ?_⟩
    ·
      repeat' first | exact trivial | exact True.intro | refine ⟨rfl, ?_⟩
    rintro i hi
    try dsimp only at hi ⊢
    refine doC_seq ?_
    refine doC_seq ?_
    refine doC_region ?_
    refine doL_v (opV_move rfl) rfl rfl rfl ?_
    refine doL_v (opV_move rfl) rfl rfl rfl ?_
    refine doL_v (opV_len_slice sl32 rfl) rfl rfl rfl ?_
    refine doL_v (opV_lss rfl rfl) rfl rfl rfl ?_
    refine doL_nil ?_
    refine post_then ?_
    refine doC_cond rfl (fun hc86 => ?_) (fun hc86 => ?_)
    ·
      have h2 : i < (shB l (obN l)).1.length := by have := of_decide_eq_true hc86; omega
      obtain ⟨s, hsk⟩ : ∃ s, (shB l (obN l)).1[i]? = some s := ⟨_, List.getElem?_eq_getElem (by omega)⟩
      obtain ⟨d, hdk⟩ : ∃ d, x18.2.2.2.2[i]? = some d := ⟨_, List.getElem?_eq_getElem (by have : x18.2.2.2.2.length = (shB l (obN l)).1.length := hsp0; omega)⟩
      have hs := spRows_get _ _ i s d hsk hdk
      obtain ⟨u, hu⟩ : ∃ u, (ptsP (lks (jsOf l 0 (nJ l 0)).1 ax (nJ l 0)) (shB l (obN l)).1)[i]? = some u := ⟨_, List.getElem?_eq_getElem (by omega)⟩
      obtain ⟨v, hv⟩ : ∃ v, (ptsP (lks (jsOf l 0 (nJ l 0)).1 bx (nJ l 0)) (shB l (obN l)).1)[i]? = some v := ⟨_, List.getElem?_eq_getElem (by omega)⟩
      obtain ⟨b1, hb1⟩ : ∃ b, x36.2[i]? = some b := ⟨_, List.getElem?_eq_getElem (by omega)⟩
      obtain ⟨b2, hb2⟩ : ∃ b, x39.2[i]? = some b := ⟨_, List.getElem?_eq_getElem (by omega)⟩
      have hr1 := plRows_get _ _ i u b1 hu hb1
      have hr2 := plRows_get _ _ i v b2 hv hb2
      have hul := ptsP_len hsk hu
      have hvl := ptsP_len hsk hv
      obtain ⟨_, _, hsl, _⟩ := shB_ok l (obN l) s (List.mem_of_getElem? hsk)
      refine doC_skip ?_
      refine post_then ?_
      refine doC_seq ?_
      refine doC_block ?_
      refine doC_seq ?_
      refine doC_seq ?_
      refine doC_all mo (by kernel_rfl) ?_
      refine doG_v (opV_move rfl) rfl rfl rfl ?_
      refine doG_v (opV_move rfl) rfl rfl rfl ?_
      refine doG_v (opV_indexS (e := 42) ((holds_r (id := 39) rfl).imp fun _ h => h.2.1) (by kernel_rfl) rfl rfl rfl hr1 h2) rfl rfl rfl ?_
      refine doG_v (opV_loadS1 i 0 ((holds_r (id := 39) rfl).imp fun _ h => h.2.1) hr1 ty42 rfl rfl) rfl rfl rfl ?_
      refine doG_v (opV_len_slice sl42 rfl) rfl rfl rfl ?_
      refine doG_v (opV_fieldAddr fa30_1 rfl) rfl rfl rfl ?_
      refine doG_v (opV_load1 7 ty27 rfl rfl rfl) rfl rfl rfl ?_
      refine doG_v (opV_move rfl) rfl rfl rfl ?_
      refine doG_v (opV_indexS (e := 41) ((holds_r (id := 18) rfl).imp fun _ h => h.2.1.1) (by kernel_rfl) rfl rfl rfl hs h2) rfl rfl rfl ?_
      refine doG_v (opV_fieldS ((holds_r (id := 18) rfl).imp fun _ h => h.2.1.1) hs fa41_2 rfl) rfl rfl rfl ?_
      refine doG_v (opV_loadS1 i 2 ((holds_r (id := 18) rfl).imp fun _ h => h.2.1.1) hs ty39 rfl rfl) rfl rfl rfl ?_
      refine doG_v (opV_len_slice sl39 rfl) rfl rfl rfl ?_
      refine doG_vg (F := vB) (opV_neq rfl rfl) rfl rfl rfl ?_; intro r101 hr101
      obtain rfl : r101 = false := hr101.trans (by rw [decide_eq_true (by omega)]; rfl)
      refine doG_v (opV_move rfl) rfl rfl rfl ?_
      refine doG_v (opV_move rfl) rfl rfl rfl ?_
      refine doG_v (opV_move rfl) rfl rfl rfl ?_
      refine doG_v (opV_indexS (e := 42) ((holds_r (id := 39) rfl).imp fun _ h => h.1.1) (by kernel_rfl) rfl rfl rfl hr2 h2) rfl rfl rfl ?_
      refine doG_v (opV_loadS1 i 0 ((holds_r (id := 39) rfl).imp fun _ h => h.1.1) hr2 ty42 rfl rfl) rfl rfl rfl ?_
      refine doG_v (opV_len_slice sl42 rfl) rfl rfl rfl ?_
      refine doG_v (opV_move rfl) rfl rfl rfl ?_
      refine doG_v (opV_move rfl) rfl rfl rfl ?_
      refine doG_v (opV_indexS (e := 42) ((holds_r (id := 39) rfl).imp fun _ h => h.2.1) (by kernel_rfl) rfl rfl rfl hr1 h2) rfl rfl rfl ?_
      refine doG_v (opV_loadS1 i 0 ((holds_r (id := 39) rfl).imp fun _ h => h.2.1) hr1 ty42 rfl rfl) rfl rfl rfl ?_
      refine doG_v (opV_len_slice sl42 rfl) rfl rfl rfl ?_
      refine doG_v (opV_neq rfl rfl) rfl rfl rfl ?_
      refine doG_v (opV_pick_f rfl rfl rfl rfl) rfl rfl rfl ?_
      refine doG_nil ?_
      refine post_then ?_
      refine doC_cond_f rfl (by rw [decide_eq_true (by omega)]; rfl) ?_
      refine doC_skip ?_
      refine post_then ?_
      refine doC_seq ?_
      refine doC_region ?_
      refine doL_v (opV_assign rfl) rfl rfl rfl ?_
      refine doL_nil ?_
      refine post_then ?_
      refine doC_block ?_
      refine doC_loopK [7, 12, 13, 15] [7] (α := Nat) (fun x => u.length - x) (fun x => x ≤ u.length) (fun _ => _) (fun x => [(16, .int .i64 (x : Int))]) (fun _ => []) 0 rfl rfl ?_ rfl ?_ ?_ rfl ?_
      ·
        exact Nat.zero_le _
      ·
        repeat' first | exact trivial | exact True.intro | refine ⟨rfl, ?_⟩
      ·
        repeat' first | exact trivial | exact True.intro | refine ⟨rfl, ?_⟩
      rintro j hj
      try dsimp only at hj ⊢
      refine doC_seq ?_
      refine doC_seq ?_
      refine doC_region ?_
      refine doL_v (opV_move rfl) rfl rfl rfl ?_
      refine doL_v (opV_move rfl) rfl rfl rfl ?_
      refine doL_v (opV_move rfl) rfl rfl rfl ?_
      refine doL_v (opV_indexS (e := 42) ((holds_r (id := 39) rfl).imp fun _ h => h.2.1) (by kernel_rfl) rfl rfl rfl hr1 h2) rfl rfl rfl ?_
      refine doL_v (opV_loadS1 i 0 ((holds_r (id := 39) rfl).imp fun _ h => h.2.1) hr1 ty42 rfl rfl) rfl rfl rfl ?_
      refine doL_v (opV_len_slice sl42 rfl) rfl rfl rfl ?_
      refine doL_v (opV_lss rfl rfl) rfl rfl rfl ?_
      refine doL_nil ?_
      refine post_then ?_
      refine doC_cond rfl (fun hc121 => ?_) (fun hc121 => ?_)
      ·
        have h3 : j < u.length := by have := of_decide_eq_true hc121; omega
        obtain ⟨x, hxj⟩ : ∃ x, u[j]? = some x := ⟨_, List.getElem?_eq_getElem (by omega)⟩
        obtain ⟨y, hyj⟩ : ∃ y, v[j]? = some y := ⟨_, List.getElem?_eq_getElem (by omega)⟩
        have hx : (u.map vc)[j]? = some (vc x) := by rw [List.getElem?_map, hxj]; rfl
        have hy : (v.map vc)[j]? = some (vc y) := by rw [List.getElem?_map, hyj]; rfl
        have hvs := sub_pt hls hu hv hxj hyj
        refine doC_skip ?_
        refine post_then ?_
        refine doC_seq ?_
        refine doC_block ?_
        refine doC_seq ?_
        refine doC_drawn 15 mo (by kernel_rfl) ?_
        simp only [List.take_succ_cons, List.take_zero, List.drop_succ_cons, List.drop_zero]
        refine doG_v (opV_move rfl) rfl rfl rfl ?_
        refine doG_v (opV_move rfl) rfl rfl rfl ?_
        refine doG_v (opV_indexS (e := 42) ((holds_r (id := 39) rfl).imp fun _ h => h.2.1) (by kernel_rfl) rfl rfl rfl hr1 h2) rfl rfl rfl ?_
        refine doG_v (opV_loadS1 i 0 ((holds_r (id := 39) rfl).imp fun _ h => h.2.1) hr1 ty42 rfl rfl) rfl rfl rfl ?_
        refine doG_v (opV_move rfl) rfl rfl rfl ?_
        refine doG_v (opV_indexS (e := 46) ((holds_r (id := 39) rfl).imp fun w h => PlF_get _ _ i u b1 w hu hb1 h.2.2) (by kernel_rfl) rfl rfl rfl hx h3) rfl rfl rfl ?_
        refine doG_v (opV_loadSA (vs := vc x) j 0 ((holds_r (id := 39) rfl).imp fun w h => PlF_get _ _ i u b1 w hu hb1 h.2.2) hx ty46 rfl rfl) rfl rfl rfl ?_
        refine doG_v (opV_move rfl) rfl rfl rfl ?_
        refine doG_v (opV_move rfl) rfl rfl rfl ?_
        refine doG_v (opV_indexS (e := 42) ((holds_r (id := 39) rfl).imp fun _ h => h.1.1) (by kernel_rfl) rfl rfl rfl hr2 h2) rfl rfl rfl ?_
        refine doG_v (opV_loadS1 i 0 ((holds_r (id := 39) rfl).imp fun _ h => h.1.1) hr2 ty42 rfl rfl) rfl rfl rfl ?_
        refine doG_v (opV_move rfl) rfl rfl rfl ?_
        refine doG_v (opV_indexS (e := 46) ((holds_r (id := 39) rfl).imp fun w h => PlF_get _ _ i v b2 w hv hb2 h.1.2) (by kernel_rfl) rfl rfl rfl hy (by omega)) rfl rfl rfl ?_
        refine doG_v (opV_loadSA (vs := vc y) j 0 ((holds_r (id := 39) rfl).imp fun w h => PlF_get _ _ i v b2 w hv hb2 h.1.2) hy ty46 rfl rfl) rfl rfl rfl ?_
        refine doG_vg (F := vB) (opV_call en21 rfl (fun w _ => rWithinVec _ _ _ _ _ _ _ _ _ _ _ _  w)) rfl rfl rfl ?_; intro r138 hr138
        refine doG_nil ?_
        refine tail_nil ?_
        refine doL_v (opV_not rfl) rfl rfl rfl ?_
        refine doL_nil ?_
        refine post_then ?_
        refine doC_cond_f rfl (by rw [show r138 = true from hr138.trans hvs.within]; rfl) ?_
        refine doC_skip ?_
        refine post_block_normal ?_
        refine post_then ?_
        refine doC_region ?_
        refine doL_v (opV_move rfl) rfl rfl rfl ?_
        refine doL_v (opV_add rfl rfl (inc_nat (by omega))) rfl rfl rfl ?_
        refine doL_v (opV_assign rfl) rfl rfl rfl ?_
        refine doL_nil ?_
        refine post_again (j + 1) (by show j + 1 ≤ u.length; omega) (by show u.length - (j + 1) < u.length - j; omega) rfl ?_ ?_ rfl
        repeat' first | exact trivial | exact True.intro | refine ⟨rfl, ?_⟩
      ·
        refine doC_exit ?_
        refine post_then_exit ?_
        refine post_then_exit ?_
        refine post_block_exit ?_
        refine post_block_normal ?_
        refine post_then ?_
        refine doC_region ?_
        refine doL_v (opV_move rfl) rfl rfl rfl ?_
        refine doL_v (opV_add rfl rfl (inc_nat (by omega))) rfl rfl rfl ?_
        refine doL_v (opV_assign rfl) rfl rfl rfl ?_
        refine doL_nil ?_
        refine post_again (i + 1) (by show i + 1 ≤ (shB l (obN l)).1.length; omega) (by show (shB l (obN l)).1.length - (i + 1) < (shB l (obN l)).1.length - i; omega) rfl ?_ ?_ rfl
        repeat' first | exact trivial | exact True.intro | refine ⟨rfl, ?_⟩
    ·
      refine doC_exit ?_
      refine post_then_exit ?_
      refine post_then_exit ?_
      refine post_block_exit ?_
      refine post_then ?_
      refine doC_seq ?_
      refine doC_region ?_
      refine doL_vg (F := vB) (opV_call en15 rfl (fun w _ => awake11   w)) rfl rfl rfl ?_; intro r140 hr140
      refine doL_v (opV_assign rfl) rfl rfl rfl ?_
      refine doL_nil ?_
      refine post_then ?_
      refine doC_ret ?_
      refine post_rets (rs := [.tmp 6]) rfl (resC (resIs_tmp rfl) (resN)) (congrArg (vB) (?_ : _ = true))
      exact hr140
end Go.Proofs.YtonampcmhhhffaaGreat

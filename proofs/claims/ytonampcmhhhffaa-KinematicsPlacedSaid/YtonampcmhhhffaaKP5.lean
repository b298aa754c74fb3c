/- Part 5 of the texts behind the last one: rules and contracts. No condition. -/
import Derived.Test.YtonampcmhhhffaaKP4
namespace Go.Proofs.Ytonampcmhhhffaa
open Go.Sx
theorem en151 : Enters Try.prog 151 := enters_of Try.func151 (by kernel_rfl) (by kernel_rfl)
theorem en152 : Enters Try.prog 152 := enters_of Try.func152 (by kernel_rfl) (by kernel_rfl)
theorem ze161 : zeroIs Try.prog 161 (.agg #[.int .i64 0, .int .i64 0, .int .i64 0, .int .i64 0, .int .i64 0, .int .i64 0, .int .i64 0, .int .i64 0, .int .i64 0, .int .i64 0, .int .i64 0]) := by unfold zeroIs; kernel_rfl
theorem ar161 : arrB Try.prog 161 11 1 = true := by kernel_rfl
theorem ty161 : tyB Try.prog 161 true 11 = true := by kernel_rfl
theorem sl95 : slcB Try.prog 95 2 1 = true := by kernel_rfl
theorem en168 : Enters Try.prog 168 := enters_of Try.func168 (by kernel_rfl) (by kernel_rfl)
theorem en170 : Enters Try.prog 170 := enters_of Try.func170 (by kernel_rfl) (by kernel_rfl)
theorem ze2 : zeroIs Try.prog 2 (.int .i64 0) := by unfold zeroIs; kernel_rfl
theorem en169 : Enters Try.prog 169 := enters_of Try.func169 (by kernel_rfl) (by kernel_rfl)
theorem en171 : Enters Try.prog 171 := enters_of Try.func171 (by kernel_rfl) (by kernel_rfl)
theorem en162 : Enters Try.prog 162 := enters_of Try.func162 (by kernel_rfl) (by kernel_rfl)
theorem en163 : Enters Try.prog 163 := enters_of Try.func163 (by kernel_rfl) (by kernel_rfl)
theorem en144 : Enters Try.prog 144 := enters_of Try.func144 (by kernel_rfl) (by kernel_rfl)
theorem en145 : Enters Try.prog 145 := enters_of Try.func145 (by kernel_rfl) (by kernel_rfl)
theorem en78 : Enters Try.prog 78 := enters_of Try.func78 (by kernel_rfl) (by kernel_rfl)
theorem en115 : Enters Try.prog 115 := enters_of Try.func115 (by kernel_rfl) (by kernel_rfl)
theorem en161 : Enters Try.prog 161 := enters_of Try.func161 (by kernel_rfl) (by kernel_rfl)
theorem en141 : Enters Try.prog 141 := enters_of Try.func141 (by kernel_rfl) (by kernel_rfl)
theorem en142 : Enters Try.prog 142 := enters_of Try.func142 (by kernel_rfl) (by kernel_rfl)
theorem en143 : Enters Try.prog 143 := enters_of Try.func143 (by kernel_rfl) (by kernel_rfl)
theorem en79 : Enters Try.prog 79 := enters_of Try.func79 (by kernel_rfl) (by kernel_rfl)
theorem en113 : Enters Try.prog 113 := enters_of Try.func113 (by kernel_rfl) (by kernel_rfl)
theorem en114 : Enters Try.prog 114 := enters_of Try.func114 (by kernel_rfl) (by kernel_rfl)
theorem en31 : Enters Try.prog 31 := enters_of Try.func31 (by kernel_rfl) (by kernel_rfl)
theorem fSD14 (a : Int) (w : World) : Calls Try.prog 151 [.int .i64 a, .int .i64 14].toArray w (Rets (vI (a / 16384)) w) := fShiftDown a 14 (by decide) w
theorem fSD16 (a : Int) (w : World) : Calls Try.prog 151 [.int .i64 a, .int .i64 16].toArray w (Rets (vI (a / 65536)) w) := fShiftDown a 16 (by decide) w
theorem fSD30 (a : Int) (w : World) : Calls Try.prog 151 [.int .i64 a, .int .i64 30].toArray w (Rets (vI (a / 1073741824)) w) := fShiftDown a 30 (by decide) w
theorem fSU14 (a : Int) (ha : In64 a) (w : World) : Calls Try.prog 152 [.int .i64 a, .int .i64 14].toArray w (Rets (vI (ceilI a 16384)) w) := fShiftUp a 14 (by decide) ha w
theorem fSU16 (a : Int) (ha : In64 a) (w : World) : Calls Try.prog 152 [.int .i64 a, .int .i64 16].toArray w (Rets (vI (ceilI a 65536)) w) := fShiftUp a 16 (by decide) ha w
theorem fSU30 (a : Int) (ha : In64 a) (w : World) : Calls Try.prog 152 [.int .i64 a, .int .i64 30].toArray w (Rets (vI (ceilI a 1073741824)) w) := fShiftUp a 30 (by decide) ha w
theorem aMod (a : Int) (w : World) : Calls Try.prog 144 [.int .i64 a].toArray w (Rets (vI (a % 65536)) (w)) := by
  refine calls_of_doC (n := 5) Try.func144 rfl rfl rfl ?_
  refine doC_seq ?_
  refine doC_region ?_
  refine doL_v (opV_assign rfl) rfl rfl rfl ?_
  refine doL_nil ?_
  refine post_then ?_
  refine doC_seq ?_
  refine doC_region ?_
  refine doL_v (opV_move rfl) rfl rfl rfl ?_
  refine doL_v (opV_and rfl rfl and_mask) rfl rfl rfl ?_
  refine doL_v (opV_assign rfl) rfl rfl rfl ?_
  refine doL_nil ?_
  refine post_then ?_
  refine doC_ret ?_
  refine post_rets (rs := [.tmp 2]) rfl (resC (resIs_tmp rfl) (resN)) (congrArg (vI) (?_ : _ = a % 65536))
  first | rfl | (subst_vars; rfl) | (subst_vars; simp_all)
theorem aCeil (a : Int) (b : Int) (ha : 0 ≤ a ∧ a ≤ 1073741824) (hb : 0 < b ∧ b ≤ 1073741824) (w : World) : Calls Try.prog 170 [.int .i64 a, .int .i64 b].toArray w (Rets (vI (ceilI a b)) (w)) := by
  refine calls_of_doC (n := 11) Try.func170 rfl rfl rfl ?_
  refine doC_seq ?_
  refine doC_region ?_
  refine doL_v (opV_assign rfl) rfl rfl rfl ?_
  refine doL_nil ?_
  refine post_then ?_
  refine doC_seq ?_
  refine doC_region ?_
  refine doL_v (opV_move rfl) rfl rfl rfl ?_
  refine doL_v (opV_move rfl) rfl rfl rfl ?_
  refine doL_v (opV_add rfl rfl (by first | exact i64_in ⟨by omega, by omega⟩ | rfl)) rfl rfl rfl ?_
  refine doL_v (opV_sub rfl rfl (by first | exact i64_in ⟨by omega, by omega⟩ | rfl)) rfl rfl rfl ?_
  refine doL_v (opV_move rfl) rfl rfl rfl ?_
  refine doL_v (opV_quo rfl rfl (by first | decide | omega) (ceil_quo ha hb)) rfl rfl rfl ?_
  refine doL_v (opV_assign rfl) rfl rfl rfl ?_
  refine doL_nil ?_
  refine post_then ?_
  refine doC_ret ?_
  refine post_rets (rs := [.tmp 4]) rfl (resC (resIs_tmp rfl) (resN)) (congrArg (vI) (?_ : _ = ceilI a b))
  first | rfl | (subst_vars; rfl) | (subst_vars; simp_all)
theorem aEnc (lo : Int) (hi : Int) (hh : In64 hi) (w : World) : Calls Try.prog 171 [.int .i64 lo, .int .i64 hi].toArray w (Rets (iv (encI lo hi)) (w)) := by
  refine calls_of_doC (n := 12) Try.func171 rfl rfl rfl ?_
  refine doC_seq ?_
  refine doC_region ?_
  refine doL_alloc 4 ze23 rfl rfl rfl ?_; intro b4
  refine doL_nil ?_
  refine post_then ?_
  refine doC_seq ?_
  refine doC_region ?_
  refine doL_v (opV_move rfl) rfl rfl rfl ?_
  refine doL_vg (F := vI) (opV_call en151 rfl (fun w _ => fSD14 _ w)) rfl rfl rfl ?_; intro r6 hr6
  refine doL_v (opV_max2 rfl rfl) rfl rfl rfl ?_
  refine doL_v (opV_move rfl) rfl rfl rfl ?_
  refine doL_vg (F := vI) (opV_call en152 rfl (fun w _ => fSU14 _ hh w)) rfl rfl rfl ?_; intro r9 hr9
  refine doL_v (opV_min2 rfl rfl) rfl rfl rfl ?_
  refine doL_v (opV_build la23 rfl rfl) rfl rfl rfl ?_
  refine doL_store 4 ty23 rfl rfl rfl rfl rfl rfl rfl rfl ?_
  refine doL_nil ?_
  refine post_then ?_
  refine doC_ret ?_
  refine post_rets (rs := [.cell 4 23]) rfl (resC (resIs_cell 4 rfl rfl ty23 rfl) (resN)) (congrArg (iv) (?_ : ⟨_, _⟩ = encI lo hi))
  subst_vars; first | (simp_all [encI]; done) | (simp_all [encI] <;> omega) | grind [encI]
theorem aPow (x : Int) (h : 0 ≤ x ∧ x ≤ 8192) (w : World) : Calls Try.prog 168 [.int .i64 x].toArray w (Rets (powV (x)) (w)) := by
  refine calls_of_doC (n := 43) Try.func168 rfl rfl rfl ?_
  refine doC_seq ?_
  refine doC_region ?_
  refine doL_alloc 2 ze161 rfl rfl rfl ?_; intro b2
  refine doL_alloc 3 ze161 rfl rfl rfl ?_; intro b3
  refine doL_nil ?_
  refine post_then ?_
  refine doC_seq ?_
  refine doC_region ?_
  refine doL_alloc 4 ze161 rfl rfl rfl ?_; intro b4
  refine doL_alloc 5 ze161 rfl rfl rfl ?_; intro b5
  refine doL_nil ?_
  refine post_then ?_
  refine doC_seq ?_
  refine doC_region ?_
  refine doL_v (opV_indexAddr ar161 rfl rfl (by first | decide | omega) (by first | decide | omega)) rfl rfl rfl ?_
  refine doL_store 4 ty2 rfl rfl rfl rfl rfl rfl rfl rfl ?_
  refine doL_v (opV_indexAddr ar161 rfl rfl (by first | decide | omega) (by first | decide | omega)) rfl rfl rfl ?_
  refine doL_store 5 ty2 rfl rfl rfl rfl rfl rfl rfl rfl ?_
  refine doL_nil ?_
  refine post_then ?_
  refine doC_seq ?_
  refine doC_region ?_
  refine doL_v (opV_move rfl) rfl rfl rfl ?_
  refine doL_v (opV_mul rfl rfl (by first | exact i64_in ⟨by omega, by omega⟩ | rfl)) rfl rfl rfl ?_
  refine doL_vg (F := vI) (opV_call en151 rfl (fun w _ => fSD16 _ w)) rfl rfl rfl ?_; intro r11 hr11
  have qr11 : 0 ≤ r11 ∧ r11 ≤ 1073741824 := by omega
  refine doL_v (opV_indexAddr ar161 rfl rfl (by first | decide | omega) (by first | decide | omega)) rfl rfl rfl ?_
  refine doL_store 4 ty2 rfl rfl rfl rfl rfl rfl rfl rfl ?_
  refine doL_nil ?_
  refine post_then ?_
  refine doC_seq ?_
  refine doC_region ?_
  refine doL_v (opV_move rfl) rfl rfl rfl ?_
  refine doL_v (opV_mul rfl rfl (by first | exact i64_in ⟨by omega, by omega⟩ | rfl)) rfl rfl rfl ?_
  refine doL_vg (F := vI) (opV_call en152 rfl (fun w _ => fSU16 _ (by unfold In64; omega) w)) rfl rfl rfl ?_; intro r15 hr15
  have qr15 := up1_bnd hr15 h
  refine doL_v (opV_indexAddr ar161 rfl rfl (by first | decide | omega) (by first | decide | omega)) rfl rfl rfl ?_
  refine doL_store 5 ty2 rfl rfl rfl rfl rfl rfl rfl rfl ?_
  refine doL_nil ?_
  refine post_then ?_
  refine doC_seq ?_
  refine doC_seq ?_
  refine doC_region ?_
  refine doL_v (opV_assign rfl) rfl rfl rfl ?_
  refine doL_nil ?_
  refine post_then ?_
  refine doC_block ?_
  refine doC_rounds 10 ?_
  refine doR_succ ?_
  refine doC_seq ?_
  refine doC_seq ?_
  refine doC_keep (ks := [0, 2, 3, 4, 5, 6]) rfl ?_
  refine doC_region ?_
  refine doL_v (opV_move rfl) rfl rfl rfl ?_
  refine doL_v (opV_lss rfl rfl) rfl rfl rfl ?_
  refine doL_nil ?_
  refine post_then ?_
  refine doC_cond_t rfl (by decide) ?_
  refine doC_skip ?_
  refine post_then ?_
  refine doC_seq ?_
  refine doC_block ?_
  refine doC_seq ?_
  refine doC_drawn 10 mo (by kernel_rfl) ?_
  simp only [List.take_succ_cons, List.take_zero, List.drop_succ_cons, List.drop_zero]
  refine doG_v (opV_move rfl) rfl rfl rfl ?_
  refine doG_v (opV_move rfl) rfl rfl rfl ?_
  refine doG_v (opV_sub rfl rfl (by first | exact i64_in ⟨by omega, by omega⟩ | rfl)) rfl rfl rfl ?_
  refine doG_v (opV_indexAddr ar161 rfl rfl (by first | decide | omega) (by first | decide | omega)) rfl rfl rfl ?_
  refine doG_v (opV_load1 4 ty2 rfl rfl rfl) rfl rfl rfl ?_
  refine doG_v (opV_indexAddr ar161 rfl rfl (by first | decide | omega) (by first | decide | omega)) rfl rfl rfl ?_
  refine doG_v (opV_load1 4 ty2 rfl rfl rfl) rfl rfl rfl ?_
  refine doG_v (opV_mul rfl rfl (mul_in (by omega) (by omega))) rfl rfl rfl ?_
  refine doG_vg (F := vI) (opV_call en151 rfl (fun w _ => fSD30 _ w)) rfl rfl rfl ?_; intro r29 hr29
  have qr29 := step_dn hr29 (by omega) (by omega)
  refine doG_v (opV_indexAddr ar161 rfl rfl (by first | decide | omega) (by first | decide | omega)) rfl rfl rfl ?_
  refine doG_nil ?_
  refine tail_nil ?_
  refine doL_store 4 ty2 rfl rfl rfl rfl rfl rfl rfl rfl ?_
  refine doL_nil ?_
  refine post_then ?_
  refine doC_drawn 10 mo (by kernel_rfl) ?_
  simp only [List.take_succ_cons, List.take_zero, List.drop_succ_cons, List.drop_zero]
  refine doG_v (opV_move rfl) rfl rfl rfl ?_
  refine doG_v (opV_move rfl) rfl rfl rfl ?_
  refine doG_v (opV_sub rfl rfl (by first | exact i64_in ⟨by omega, by omega⟩ | rfl)) rfl rfl rfl ?_
  refine doG_v (opV_indexAddr ar161 rfl rfl (by first | decide | omega) (by first | decide | omega)) rfl rfl rfl ?_
  refine doG_v (opV_load1 5 ty2 rfl rfl rfl) rfl rfl rfl ?_
  refine doG_v (opV_indexAddr ar161 rfl rfl (by first | decide | omega) (by first | decide | omega)) rfl rfl rfl ?_
  refine doG_v (opV_load1 5 ty2 rfl rfl rfl) rfl rfl rfl ?_
  refine doG_v (opV_mul rfl rfl (mul_in (by omega) (by omega))) rfl rfl rfl ?_
  refine doG_vg (F := vI) (opV_call en152 rfl (fun w _ => fSU30 _ (in64_mul (by omega) (by omega)) w)) rfl rfl rfl ?_; intro r39 hr39
  have qr39 := step_up hr39 (by omega) (by omega)
  refine doG_v (opV_indexAddr ar161 rfl rfl (by first | decide | omega) (by first | decide | omega)) rfl rfl rfl ?_
  refine doG_nil ?_
  refine tail_nil ?_
  refine doL_store 5 ty2 rfl rfl rfl rfl rfl rfl rfl rfl ?_
  refine doL_nil ?_
  refine post_block_normal ?_
  refine post_then ?_
  refine doC_region ?_
  refine doL_v (opV_move rfl) rfl rfl rfl ?_
  refine doL_v (opV_add rfl rfl (by first | exact i64_in ⟨by omega, by omega⟩ | rfl)) rfl rfl rfl ?_
  refine doL_v (opV_assign rfl) rfl rfl rfl ?_
  refine doL_nil ?_
  refine post_rounds ?_
  refine doR_succ ?_
  refine doC_seq ?_
  refine doC_seq ?_
  refine doC_keep (ks := [0, 2, 3, 4, 5, 6]) rfl ?_
  refine doC_region ?_
  refine doL_v (opV_move rfl) rfl rfl rfl ?_
  refine doL_v (opV_lss rfl rfl) rfl rfl rfl ?_
  refine doL_nil ?_
  refine post_then ?_
  refine doC_cond_t rfl (by decide) ?_
  refine doC_skip ?_
  refine post_then ?_
  refine doC_seq ?_
  refine doC_block ?_
  refine doC_seq ?_
  refine doC_drawn 10 mo (by kernel_rfl) ?_
  simp only [List.take_succ_cons, List.take_zero, List.drop_succ_cons, List.drop_zero]
  refine doG_v (opV_move rfl) rfl rfl rfl ?_
  refine doG_v (opV_move rfl) rfl rfl rfl ?_
  refine doG_v (opV_sub rfl rfl (by first | exact i64_in ⟨by omega, by omega⟩ | rfl)) rfl rfl rfl ?_
  refine doG_v (opV_indexAddr ar161 rfl rfl (by first | decide | omega) (by first | decide | omega)) rfl rfl rfl ?_
  refine doG_v (opV_load1 4 ty2 rfl rfl rfl) rfl rfl rfl ?_
  refine doG_v (opV_indexAddr ar161 rfl rfl (by first | decide | omega) (by first | decide | omega)) rfl rfl rfl ?_
  refine doG_v (opV_load1 4 ty2 rfl rfl rfl) rfl rfl rfl ?_
  refine doG_v (opV_mul rfl rfl (mul_in (by omega) (by omega))) rfl rfl rfl ?_
  refine doG_vg (F := vI) (opV_call en151 rfl (fun w _ => fSD30 _ w)) rfl rfl rfl ?_; intro r29_2 hr29_2
  have qr29_2 := step_dn hr29_2 (by omega) (by omega)
  refine doG_v (opV_indexAddr ar161 rfl rfl (by first | decide | omega) (by first | decide | omega)) rfl rfl rfl ?_
  refine doG_nil ?_
  refine tail_nil ?_
  refine doL_store 4 ty2 rfl rfl rfl rfl rfl rfl rfl rfl ?_
  refine doL_nil ?_
  refine post_then ?_
  refine doC_drawn 10 mo (by kernel_rfl) ?_
  simp only [List.take_succ_cons, List.take_zero, List.drop_succ_cons, List.drop_zero]
  refine doG_v (opV_move rfl) rfl rfl rfl ?_
  refine doG_v (opV_move rfl) rfl rfl rfl ?_
  refine doG_v (opV_sub rfl rfl (by first | exact i64_in ⟨by omega, by omega⟩ | rfl)) rfl rfl rfl ?_
  refine doG_v (opV_indexAddr ar161 rfl rfl (by first | decide | omega) (by first | decide | omega)) rfl rfl rfl ?_
  refine doG_v (opV_load1 5 ty2 rfl rfl rfl) rfl rfl rfl ?_
  refine doG_v (opV_indexAddr ar161 rfl rfl (by first | decide | omega) (by first | decide | omega)) rfl rfl rfl ?_
  refine doG_v (opV_load1 5 ty2 rfl rfl rfl) rfl rfl rfl ?_
  refine doG_v (opV_mul rfl rfl (mul_in (by omega) (by omega))) rfl rfl rfl ?_
  refine doG_vg (F := vI) (opV_call en152 rfl (fun w _ => fSU30 _ (in64_mul (by omega) (by omega)) w)) rfl rfl rfl ?_; intro r39_2 hr39_2
  have qr39_2 := step_up hr39_2 (by omega) (by omega)
  refine doG_v (opV_indexAddr ar161 rfl rfl (by first | decide | omega) (by first | decide | omega)) rfl rfl rfl ?_
  refine doG_nil ?_
  refine tail_nil ?_
  refine doL_store 5 ty2 rfl rfl rfl rfl rfl rfl rfl rfl ?_
  refine doL_nil ?_
  refine post_block_normal ?_
  refine post_then ?_
  refine doC_region ?_
  refine doL_v (opV_move rfl) rfl rfl rfl ?_
  refine doL_v (opV_add rfl rfl (by first | exact i64_in ⟨by omega, by omega⟩ | rfl)) rfl rfl rfl ?_
  refine doL_v (opV_assign rfl) rfl rfl rfl ?_
  refine doL_nil ?_
  refine post_rounds ?_
  refine doR_succ ?_
  refine doC_seq ?_
  refine doC_seq ?_
  refine doC_keep (ks := [0, 2, 3, 4, 5, 6]) rfl ?_
  refine doC_region ?_
  refine doL_v (opV_move rfl) rfl rfl rfl ?_
  refine doL_v (opV_lss rfl rfl) rfl rfl rfl ?_
  refine doL_nil ?_
  refine post_then ?_
  refine doC_cond_t rfl (by decide) ?_
  refine doC_skip ?_
  refine post_then ?_
  refine doC_seq ?_
  refine doC_block ?_
  refine doC_seq ?_
  refine doC_drawn 10 mo (by kernel_rfl) ?_
  simp only [List.take_succ_cons, List.take_zero, List.drop_succ_cons, List.drop_zero]
  refine doG_v (opV_move rfl) rfl rfl rfl ?_
  refine doG_v (opV_move rfl) rfl rfl rfl ?_
  refine doG_v (opV_sub rfl rfl (by first | exact i64_in ⟨by omega, by omega⟩ | rfl)) rfl rfl rfl ?_
  refine doG_v (opV_indexAddr ar161 rfl rfl (by first | decide | omega) (by first | decide | omega)) rfl rfl rfl ?_
  refine doG_v (opV_load1 4 ty2 rfl rfl rfl) rfl rfl rfl ?_
  refine doG_v (opV_indexAddr ar161 rfl rfl (by first | decide | omega) (by first | decide | omega)) rfl rfl rfl ?_
  refine doG_v (opV_load1 4 ty2 rfl rfl rfl) rfl rfl rfl ?_
  refine doG_v (opV_mul rfl rfl (mul_in (by omega) (by omega))) rfl rfl rfl ?_
  refine doG_vg (F := vI) (opV_call en151 rfl (fun w _ => fSD30 _ w)) rfl rfl rfl ?_; intro r29_3 hr29_3
  have qr29_3 := step_dn hr29_3 (by omega) (by omega)
  refine doG_v (opV_indexAddr ar161 rfl rfl (by first | decide | omega) (by first | decide | omega)) rfl rfl rfl ?_
  refine doG_nil ?_
  refine tail_nil ?_
  refine doL_store 4 ty2 rfl rfl rfl rfl rfl rfl rfl rfl ?_
  refine doL_nil ?_
  refine post_then ?_
  refine doC_drawn 10 mo (by kernel_rfl) ?_
  simp only [List.take_succ_cons, List.take_zero, List.drop_succ_cons, List.drop_zero]
  refine doG_v (opV_move rfl) rfl rfl rfl ?_
  refine doG_v (opV_move rfl) rfl rfl rfl ?_
  refine doG_v (opV_sub rfl rfl (by first | exact i64_in ⟨by omega, by omega⟩ | rfl)) rfl rfl rfl ?_
  refine doG_v (opV_indexAddr ar161 rfl rfl (by first | decide | omega) (by first | decide | omega)) rfl rfl rfl ?_
  refine doG_v (opV_load1 5 ty2 rfl rfl rfl) rfl rfl rfl ?_
  refine doG_v (opV_indexAddr ar161 rfl rfl (by first | decide | omega) (by first | decide | omega)) rfl rfl rfl ?_
  refine doG_v (opV_load1 5 ty2 rfl rfl rfl) rfl rfl rfl ?_
  refine doG_v (opV_mul rfl rfl (mul_in (by omega) (by omega))) rfl rfl rfl ?_
  refine doG_vg (F := vI) (opV_call en152 rfl (fun w _ => fSU30 _ (in64_mul (by omega) (by omega)) w)) rfl rfl rfl ?_; intro r39_3 hr39_3
  have qr39_3 := step_up hr39_3 (by omega) (by omega)
  refine doG_v (opV_indexAddr ar161 rfl rfl (by first | decide | omega) (by first | decide | omega)) rfl rfl rfl ?_
  refine doG_nil ?_
  refine tail_nil ?_
  refine doL_store 5 ty2 rfl rfl rfl rfl rfl rfl rfl rfl ?_
  refine doL_nil ?_
  refine post_block_normal ?_
  refine post_then ?_
  refine doC_region ?_
  refine doL_v (opV_move rfl) rfl rfl rfl ?_
  refine doL_v (opV_add rfl rfl (by first | exact i64_in ⟨by omega, by omega⟩ | rfl)) rfl rfl rfl ?_
  refine doL_v (opV_assign rfl) rfl rfl rfl ?_
  refine doL_nil ?_
  refine post_rounds ?_
  refine doR_succ ?_
  refine doC_seq ?_
  refine doC_seq ?_
  refine doC_keep (ks := [0, 2, 3, 4, 5, 6]) rfl ?_
  refine doC_region ?_
  refine doL_v (opV_move rfl) rfl rfl rfl ?_
  refine doL_v (opV_lss rfl rfl) rfl rfl rfl ?_
  refine doL_nil ?_
  refine post_then ?_
  refine doC_cond_t rfl (by decide) ?_
  refine doC_skip ?_
  refine post_then ?_
  refine doC_seq ?_
  refine doC_block ?_
  refine doC_seq ?_
  refine doC_drawn 10 mo (by kernel_rfl) ?_
  simp only [List.take_succ_cons, List.take_zero, List.drop_succ_cons, List.drop_zero]
  refine doG_v (opV_move rfl) rfl rfl rfl ?_
  refine doG_v (opV_move rfl) rfl rfl rfl ?_
  refine doG_v (opV_sub rfl rfl (by first | exact i64_in ⟨by omega, by omega⟩ | rfl)) rfl rfl rfl ?_
  refine doG_v (opV_indexAddr ar161 rfl rfl (by first | decide | omega) (by first | decide | omega)) rfl rfl rfl ?_
  refine doG_v (opV_load1 4 ty2 rfl rfl rfl) rfl rfl rfl ?_
  refine doG_v (opV_indexAddr ar161 rfl rfl (by first | decide | omega) (by first | decide | omega)) rfl rfl rfl ?_
  refine doG_v (opV_load1 4 ty2 rfl rfl rfl) rfl rfl rfl ?_
  refine doG_v (opV_mul rfl rfl (mul_in (by omega) (by omega))) rfl rfl rfl ?_
  refine doG_vg (F := vI) (opV_call en151 rfl (fun w _ => fSD30 _ w)) rfl rfl rfl ?_; intro r29_4 hr29_4
  have qr29_4 := step_dn hr29_4 (by omega) (by omega)
  refine doG_v (opV_indexAddr ar161 rfl rfl (by first | decide | omega) (by first | decide | omega)) rfl rfl rfl ?_
  refine doG_nil ?_
  refine tail_nil ?_
  refine doL_store 4 ty2 rfl rfl rfl rfl rfl rfl rfl rfl ?_
  refine doL_nil ?_
  refine post_then ?_
  refine doC_drawn 10 mo (by kernel_rfl) ?_
  simp only [List.take_succ_cons, List.take_zero, List.drop_succ_cons, List.drop_zero]
  refine doG_v (opV_move rfl) rfl rfl rfl ?_
  refine doG_v (opV_move rfl) rfl rfl rfl ?_
  refine doG_v (opV_sub rfl rfl (by first | exact i64_in ⟨by omega, by omega⟩ | rfl)) rfl rfl rfl ?_
  refine doG_v (opV_indexAddr ar161 rfl rfl (by first | decide | omega) (by first | decide | omega)) rfl rfl rfl ?_
  refine doG_v (opV_load1 5 ty2 rfl rfl rfl) rfl rfl rfl ?_
  refine doG_v (opV_indexAddr ar161 rfl rfl (by first | decide | omega) (by first | decide | omega)) rfl rfl rfl ?_
  refine doG_v (opV_load1 5 ty2 rfl rfl rfl) rfl rfl rfl ?_
  refine doG_v (opV_mul rfl rfl (mul_in (by omega) (by omega))) rfl rfl rfl ?_
  refine doG_vg (F := vI) (opV_call en152 rfl (fun w _ => fSU30 _ (in64_mul (by omega) (by omega)) w)) rfl rfl rfl ?_; intro r39_4 hr39_4
  have qr39_4 := step_up hr39_4 (by omega) (by omega)
  refine doG_v (opV_indexAddr ar161 rfl rfl (by first | decide | omega) (by first | decide | omega)) rfl rfl rfl ?_
  refine doG_nil ?_
  refine tail_nil ?_
  refine doL_store 5 ty2 rfl rfl rfl rfl rfl rfl rfl rfl ?_
  refine doL_nil ?_
  refine post_block_normal ?_
  refine post_then ?_
  refine doC_region ?_
  refine doL_v (opV_move rfl) rfl rfl rfl ?_
  refine doL_v (opV_add rfl rfl (by first | exact i64_in ⟨by omega, by omega⟩ | rfl)) rfl rfl rfl ?_
  refine doL_v (opV_assign rfl) rfl rfl rfl ?_
  refine doL_nil ?_
  refine post_rounds ?_
  refine doR_succ ?_
  refine doC_seq ?_
  refine doC_seq ?_
  refine doC_keep (ks := [0, 2, 3, 4, 5, 6]) rfl ?_
  refine doC_region ?_
  refine doL_v (opV_move rfl) rfl rfl rfl ?_
  refine doL_v (opV_lss rfl rfl) rfl rfl rfl ?_
  refine doL_nil ?_
  refine post_then ?_
  refine doC_cond_t rfl (by decide) ?_
  refine doC_skip ?_
  refine post_then ?_
  refine doC_seq ?_
  refine doC_block ?_
  refine doC_seq ?_
  refine doC_drawn 10 mo (by kernel_rfl) ?_
  simp only [List.take_succ_cons, List.take_zero, List.drop_succ_cons, List.drop_zero]
  refine doG_v (opV_move rfl) rfl rfl rfl ?_
  refine doG_v (opV_move rfl) rfl rfl rfl ?_
  refine doG_v (opV_sub rfl rfl (by first | exact i64_in ⟨by omega, by omega⟩ | rfl)) rfl rfl rfl ?_
  refine doG_v (opV_indexAddr ar161 rfl rfl (by first | decide | omega) (by first | decide | omega)) rfl rfl rfl ?_
  refine doG_v (opV_load1 4 ty2 rfl rfl rfl) rfl rfl rfl ?_
  refine doG_v (opV_indexAddr ar161 rfl rfl (by first | decide | omega) (by first | decide | omega)) rfl rfl rfl ?_
  refine doG_v (opV_load1 4 ty2 rfl rfl rfl) rfl rfl rfl ?_
  refine doG_v (opV_mul rfl rfl (mul_in (by omega) (by omega))) rfl rfl rfl ?_
  refine doG_vg (F := vI) (opV_call en151 rfl (fun w _ => fSD30 _ w)) rfl rfl rfl ?_; intro r29_5 hr29_5
  have qr29_5 := step_dn hr29_5 (by omega) (by omega)
  refine doG_v (opV_indexAddr ar161 rfl rfl (by first | decide | omega) (by first | decide | omega)) rfl rfl rfl ?_
  refine doG_nil ?_
  refine tail_nil ?_
  refine doL_store 4 ty2 rfl rfl rfl rfl rfl rfl rfl rfl ?_
  refine doL_nil ?_
  refine post_then ?_
  refine doC_drawn 10 mo (by kernel_rfl) ?_
  simp only [List.take_succ_cons, List.take_zero, List.drop_succ_cons, List.drop_zero]
  refine doG_v (opV_move rfl) rfl rfl rfl ?_
  refine doG_v (opV_move rfl) rfl rfl rfl ?_
  refine doG_v (opV_sub rfl rfl (by first | exact i64_in ⟨by omega, by omega⟩ | rfl)) rfl rfl rfl ?_
  refine doG_v (opV_indexAddr ar161 rfl rfl (by first | decide | omega) (by first | decide | omega)) rfl rfl rfl ?_
  refine doG_v (opV_load1 5 ty2 rfl rfl rfl) rfl rfl rfl ?_
  refine doG_v (opV_indexAddr ar161 rfl rfl (by first | decide | omega) (by first | decide | omega)) rfl rfl rfl ?_
  refine doG_v (opV_load1 5 ty2 rfl rfl rfl) rfl rfl rfl ?_
  refine doG_v (opV_mul rfl rfl (mul_in (by omega) (by omega))) rfl rfl rfl ?_
  refine doG_vg (F := vI) (opV_call en152 rfl (fun w _ => fSU30 _ (in64_mul (by omega) (by omega)) w)) rfl rfl rfl ?_; intro r39_5 hr39_5
  have qr39_5 := step_up hr39_5 (by omega) (by omega)
  refine doG_v (opV_indexAddr ar161 rfl rfl (by first | decide | omega) (by first | decide | omega)) rfl rfl rfl ?_
  refine doG_nil ?_
  refine tail_nil ?_
  refine doL_store 5 ty2 rfl rfl rfl rfl rfl rfl rfl rfl ?_
  refine doL_nil ?_
  refine post_block_normal ?_
  refine post_then ?_
  refine doC_region ?_
  refine doL_v (opV_move rfl) rfl rfl rfl ?_
  refine doL_v (opV_add rfl rfl (by first | exact i64_in ⟨by omega, by omega⟩ | rfl)) rfl rfl rfl ?_
  refine doL_v (opV_assign rfl) rfl rfl rfl ?_
  refine doL_nil ?_
  refine post_rounds ?_
  refine doR_succ ?_
  refine doC_seq ?_
  refine doC_seq ?_
  refine doC_keep (ks := [0, 2, 3, 4, 5, 6]) rfl ?_
  refine doC_region ?_
  refine doL_v (opV_move rfl) rfl rfl rfl ?_
  refine doL_v (opV_lss rfl rfl) rfl rfl rfl ?_
  refine doL_nil ?_
  refine post_then ?_
  refine doC_cond_t rfl (by decide) ?_
  refine doC_skip ?_
  refine post_then ?_
  refine doC_seq ?_
  refine doC_block ?_
  refine doC_seq ?_
  refine doC_drawn 10 mo (by kernel_rfl) ?_
  simp only [List.take_succ_cons, List.take_zero, List.drop_succ_cons, List.drop_zero]
  refine doG_v (opV_move rfl) rfl rfl rfl ?_
  refine doG_v (opV_move rfl) rfl rfl rfl ?_
  refine doG_v (opV_sub rfl rfl (by first | exact i64_in ⟨by omega, by omega⟩ | rfl)) rfl rfl rfl ?_
  refine doG_v (opV_indexAddr ar161 rfl rfl (by first | decide | omega) (by first | decide | omega)) rfl rfl rfl ?_
  refine doG_v (opV_load1 4 ty2 rfl rfl rfl) rfl rfl rfl ?_
  refine doG_v (opV_indexAddr ar161 rfl rfl (by first | decide | omega) (by first | decide | omega)) rfl rfl rfl ?_
  refine doG_v (opV_load1 4 ty2 rfl rfl rfl) rfl rfl rfl ?_
  refine doG_v (opV_mul rfl rfl (mul_in (by omega) (by omega))) rfl rfl rfl ?_
  refine doG_vg (F := vI) (opV_call en151 rfl (fun w _ => fSD30 _ w)) rfl rfl rfl ?_; intro r29_6 hr29_6
  have qr29_6 := step_dn hr29_6 (by omega) (by omega)
  refine doG_v (opV_indexAddr ar161 rfl rfl (by first | decide | omega) (by first | decide | omega)) rfl rfl rfl ?_
  refine doG_nil ?_
  refine tail_nil ?_
  refine doL_store 4 ty2 rfl rfl rfl rfl rfl rfl rfl rfl ?_
  refine doL_nil ?_
  refine post_then ?_
  refine doC_drawn 10 mo (by kernel_rfl) ?_
  simp only [List.take_succ_cons, List.take_zero, List.drop_succ_cons, List.drop_zero]
  refine doG_v (opV_move rfl) rfl rfl rfl ?_
  refine doG_v (opV_move rfl) rfl rfl rfl ?_
  refine doG_v (opV_sub rfl rfl (by first | exact i64_in ⟨by omega, by omega⟩ | rfl)) rfl rfl rfl ?_
  refine doG_v (opV_indexAddr ar161 rfl rfl (by first | decide | omega) (by first | decide | omega)) rfl rfl rfl ?_
  refine doG_v (opV_load1 5 ty2 rfl rfl rfl) rfl rfl rfl ?_
  refine doG_v (opV_indexAddr ar161 rfl rfl (by first | decide | omega) (by first | decide | omega)) rfl rfl rfl ?_
  refine doG_v (opV_load1 5 ty2 rfl rfl rfl) rfl rfl rfl ?_
  refine doG_v (opV_mul rfl rfl (mul_in (by omega) (by omega))) rfl rfl rfl ?_
  refine doG_vg (F := vI) (opV_call en152 rfl (fun w _ => fSU30 _ (in64_mul (by omega) (by omega)) w)) rfl rfl rfl ?_; intro r39_6 hr39_6
  have qr39_6 := step_up hr39_6 (by omega) (by omega)
  refine doG_v (opV_indexAddr ar161 rfl rfl (by first | decide | omega) (by first | decide | omega)) rfl rfl rfl ?_
  refine doG_nil ?_
  refine tail_nil ?_
  refine doL_store 5 ty2 rfl rfl rfl rfl rfl rfl rfl rfl ?_
  refine doL_nil ?_
  refine post_block_normal ?_
  refine post_then ?_
  refine doC_region ?_
  refine doL_v (opV_move rfl) rfl rfl rfl ?_
  refine doL_v (opV_add rfl rfl (by first | exact i64_in ⟨by omega, by omega⟩ | rfl)) rfl rfl rfl ?_
  refine doL_v (opV_assign rfl) rfl rfl rfl ?_
  refine doL_nil ?_
  refine post_rounds ?_
  refine doR_succ ?_
  refine doC_seq ?_
  refine doC_seq ?_
  refine doC_keep (ks := [0, 2, 3, 4, 5, 6]) rfl ?_
  refine doC_region ?_
  refine doL_v (opV_move rfl) rfl rfl rfl ?_
  refine doL_v (opV_lss rfl rfl) rfl rfl rfl ?_
  refine doL_nil ?_
  refine post_then ?_
  refine doC_cond_t rfl (by decide) ?_
  refine doC_skip ?_
  refine post_then ?_
  refine doC_seq ?_
  refine doC_block ?_
  refine doC_seq ?_
  refine doC_drawn 10 mo (by kernel_rfl) ?_
  simp only [List.take_succ_cons, List.take_zero, List.drop_succ_cons, List.drop_zero]
  refine doG_v (opV_move rfl) rfl rfl rfl ?_
  refine doG_v (opV_move rfl) rfl rfl rfl ?_
  refine doG_v (opV_sub rfl rfl (by first | exact i64_in ⟨by omega, by omega⟩ | rfl)) rfl rfl rfl ?_
  refine doG_v (opV_indexAddr ar161 rfl rfl (by first | decide | omega) (by first | decide | omega)) rfl rfl rfl ?_
  refine doG_v (opV_load1 4 ty2 rfl rfl rfl) rfl rfl rfl ?_
  refine doG_v (opV_indexAddr ar161 rfl rfl (by first | decide | omega) (by first | decide | omega)) rfl rfl rfl ?_
  refine doG_v (opV_load1 4 ty2 rfl rfl rfl) rfl rfl rfl ?_
  refine doG_v (opV_mul rfl rfl (mul_in (by omega) (by omega))) rfl rfl rfl ?_
  refine doG_vg (F := vI) (opV_call en151 rfl (fun w _ => fSD30 _ w)) rfl rfl rfl ?_; intro r29_7 hr29_7
  have qr29_7 := step_dn hr29_7 (by omega) (by omega)
  refine doG_v (opV_indexAddr ar161 rfl rfl (by first | decide | omega) (by first | decide | omega)) rfl rfl rfl ?_
  refine doG_nil ?_
  refine tail_nil ?_
  refine doL_store 4 ty2 rfl rfl rfl rfl rfl rfl rfl rfl ?_
  refine doL_nil ?_
  refine post_then ?_
  refine doC_drawn 10 mo (by kernel_rfl) ?_
  simp only [List.take_succ_cons, List.take_zero, List.drop_succ_cons, List.drop_zero]
  refine doG_v (opV_move rfl) rfl rfl rfl ?_
  refine doG_v (opV_move rfl) rfl rfl rfl ?_
  refine doG_v (opV_sub rfl rfl (by first | exact i64_in ⟨by omega, by omega⟩ | rfl)) rfl rfl rfl ?_
  refine doG_v (opV_indexAddr ar161 rfl rfl (by first | decide | omega) (by first | decide | omega)) rfl rfl rfl ?_
  refine doG_v (opV_load1 5 ty2 rfl rfl rfl) rfl rfl rfl ?_
  refine doG_v (opV_indexAddr ar161 rfl rfl (by first | decide | omega) (by first | decide | omega)) rfl rfl rfl ?_
  refine doG_v (opV_load1 5 ty2 rfl rfl rfl) rfl rfl rfl ?_
  refine doG_v (opV_mul rfl rfl (mul_in (by omega) (by omega))) rfl rfl rfl ?_
  refine doG_vg (F := vI) (opV_call en152 rfl (fun w _ => fSU30 _ (in64_mul (by omega) (by omega)) w)) rfl rfl rfl ?_; intro r39_7 hr39_7
  have qr39_7 := step_up hr39_7 (by omega) (by omega)
  refine doG_v (opV_indexAddr ar161 rfl rfl (by first | decide | omega) (by first | decide | omega)) rfl rfl rfl ?_
  refine doG_nil ?_
  refine tail_nil ?_
  refine doL_store 5 ty2 rfl rfl rfl rfl rfl rfl rfl rfl ?_
  refine doL_nil ?_
  refine post_block_normal ?_
  refine post_then ?_
  refine doC_region ?_
  refine doL_v (opV_move rfl) rfl rfl rfl ?_
  refine doL_v (opV_add rfl rfl (by first | exact i64_in ⟨by omega, by omega⟩ | rfl)) rfl rfl rfl ?_
  refine doL_v (opV_assign rfl) rfl rfl rfl ?_
  refine doL_nil ?_
  refine post_rounds ?_
  refine doR_succ ?_
  refine doC_seq ?_
  refine doC_seq ?_
  refine doC_keep (ks := [0, 2, 3, 4, 5, 6]) rfl ?_
  refine doC_region ?_
  refine doL_v (opV_move rfl) rfl rfl rfl ?_
  refine doL_v (opV_lss rfl rfl) rfl rfl rfl ?_
  refine doL_nil ?_
  refine post_then ?_
  refine doC_cond_t rfl (by decide) ?_
  refine doC_skip ?_
  refine post_then ?_
  refine doC_seq ?_
  refine doC_block ?_
  refine doC_seq ?_
  refine doC_drawn 10 mo (by kernel_rfl) ?_
  simp only [List.take_succ_cons, List.take_zero, List.drop_succ_cons, List.drop_zero]
  refine doG_v (opV_move rfl) rfl rfl rfl ?_
  refine doG_v (opV_move rfl) rfl rfl rfl ?_
  refine doG_v (opV_sub rfl rfl (by first | exact i64_in ⟨by omega, by omega⟩ | rfl)) rfl rfl rfl ?_
  refine doG_v (opV_indexAddr ar161 rfl rfl (by first | decide | omega) (by first | decide | omega)) rfl rfl rfl ?_
  refine doG_v (opV_load1 4 ty2 rfl rfl rfl) rfl rfl rfl ?_
  refine doG_v (opV_indexAddr ar161 rfl rfl (by first | decide | omega) (by first | decide | omega)) rfl rfl rfl ?_
  refine doG_v (opV_load1 4 ty2 rfl rfl rfl) rfl rfl rfl ?_
  refine doG_v (opV_mul rfl rfl (mul_in (by omega) (by omega))) rfl rfl rfl ?_
  refine doG_vg (F := vI) (opV_call en151 rfl (fun w _ => fSD30 _ w)) rfl rfl rfl ?_; intro r29_8 hr29_8
  have qr29_8 := step_dn hr29_8 (by omega) (by omega)
  refine doG_v (opV_indexAddr ar161 rfl rfl (by first | decide | omega) (by first | decide | omega)) rfl rfl rfl ?_
  refine doG_nil ?_
  refine tail_nil ?_
  refine doL_store 4 ty2 rfl rfl rfl rfl rfl rfl rfl rfl ?_
  refine doL_nil ?_
  refine post_then ?_
  refine doC_drawn 10 mo (by kernel_rfl) ?_
  simp only [List.take_succ_cons, List.take_zero, List.drop_succ_cons, List.drop_zero]
  refine doG_v (opV_move rfl) rfl rfl rfl ?_
  refine doG_v (opV_move rfl) rfl rfl rfl ?_
  refine doG_v (opV_sub rfl rfl (by first | exact i64_in ⟨by omega, by omega⟩ | rfl)) rfl rfl rfl ?_
  refine doG_v (opV_indexAddr ar161 rfl rfl (by first | decide | omega) (by first | decide | omega)) rfl rfl rfl ?_
  refine doG_v (opV_load1 5 ty2 rfl rfl rfl) rfl rfl rfl ?_
  refine doG_v (opV_indexAddr ar161 rfl rfl (by first | decide | omega) (by first | decide | omega)) rfl rfl rfl ?_
  refine doG_v (opV_load1 5 ty2 rfl rfl rfl) rfl rfl rfl ?_
  refine doG_v (opV_mul rfl rfl (mul_in (by omega) (by omega))) rfl rfl rfl ?_
  refine doG_vg (F := vI) (opV_call en152 rfl (fun w _ => fSU30 _ (in64_mul (by omega) (by omega)) w)) rfl rfl rfl ?_; intro r39_8 hr39_8
  have qr39_8 := step_up hr39_8 (by omega) (by omega)
  refine doG_v (opV_indexAddr ar161 rfl rfl (by first | decide | omega) (by first | decide | omega)) rfl rfl rfl ?_
  refine doG_nil ?_
  refine tail_nil ?_
  refine doL_store 5 ty2 rfl rfl rfl rfl rfl rfl rfl rfl ?_
  refine doL_nil ?_
  refine post_block_normal ?_
  refine post_then ?_
  refine doC_region ?_
  refine doL_v (opV_move rfl) rfl rfl rfl ?_
  refine doL_v (opV_add rfl rfl (by first | exact i64_in ⟨by omega, by omega⟩ | rfl)) rfl rfl rfl ?_
  refine doL_v (opV_assign rfl) rfl rfl rfl ?_
  refine doL_nil ?_
  refine post_rounds ?_
  refine doR_succ ?_
  refine doC_seq ?_
  refine doC_seq ?_
  refine doC_keep (ks := [0, 2, 3, 4, 5, 6]) rfl ?_
  refine doC_region ?_
  refine doL_v (opV_move rfl) rfl rfl rfl ?_
  refine doL_v (opV_lss rfl rfl) rfl rfl rfl ?_
  refine doL_nil ?_
  refine post_then ?_
  refine doC_cond_t rfl (by decide) ?_
  refine doC_skip ?_
  refine post_then ?_
  refine doC_seq ?_
  refine doC_block ?_
  refine doC_seq ?_
  refine doC_drawn 10 mo (by kernel_rfl) ?_
  simp only [List.take_succ_cons, List.take_zero, List.drop_succ_cons, List.drop_zero]
  refine doG_v (opV_move rfl) rfl rfl rfl ?_
  refine doG_v (opV_move rfl) rfl rfl rfl ?_
  refine doG_v (opV_sub rfl rfl (by first | exact i64_in ⟨by omega, by omega⟩ | rfl)) rfl rfl rfl ?_
  refine doG_v (opV_indexAddr ar161 rfl rfl (by first | decide | omega) (by first | decide | omega)) rfl rfl rfl ?_
  refine doG_v (opV_load1 4 ty2 rfl rfl rfl) rfl rfl rfl ?_
  refine doG_v (opV_indexAddr ar161 rfl rfl (by first | decide | omega) (by first | decide | omega)) rfl rfl rfl ?_
  refine doG_v (opV_load1 4 ty2 rfl rfl rfl) rfl rfl rfl ?_
  refine doG_v (opV_mul rfl rfl (mul_in (by omega) (by omega))) rfl rfl rfl ?_
  refine doG_vg (F := vI) (opV_call en151 rfl (fun w _ => fSD30 _ w)) rfl rfl rfl ?_; intro r29_9 hr29_9
  have qr29_9 := step_dn hr29_9 (by omega) (by omega)
  refine doG_v (opV_indexAddr ar161 rfl rfl (by first | decide | omega) (by first | decide | omega)) rfl rfl rfl ?_
  refine doG_nil ?_
  refine tail_nil ?_
  refine doL_store 4 ty2 rfl rfl rfl rfl rfl rfl rfl rfl ?_
  refine doL_nil ?_
  refine post_then ?_
  refine doC_drawn 10 mo (by kernel_rfl) ?_
  simp only [List.take_succ_cons, List.take_zero, List.drop_succ_cons, List.drop_zero]
  refine doG_v (opV_move rfl) rfl rfl rfl ?_
  refine doG_v (opV_move rfl) rfl rfl rfl ?_
  refine doG_v (opV_sub rfl rfl (by first | exact i64_in ⟨by omega, by omega⟩ | rfl)) rfl rfl rfl ?_
  refine doG_v (opV_indexAddr ar161 rfl rfl (by first | decide | omega) (by first | decide | omega)) rfl rfl rfl ?_
  refine doG_v (opV_load1 5 ty2 rfl rfl rfl) rfl rfl rfl ?_
  refine doG_v (opV_indexAddr ar161 rfl rfl (by first | decide | omega) (by first | decide | omega)) rfl rfl rfl ?_
  refine doG_v (opV_load1 5 ty2 rfl rfl rfl) rfl rfl rfl ?_
  refine doG_v (opV_mul rfl rfl (mul_in (by omega) (by omega))) rfl rfl rfl ?_
  refine doG_vg (F := vI) (opV_call en152 rfl (fun w _ => fSU30 _ (in64_mul (by omega) (by omega)) w)) rfl rfl rfl ?_; intro r39_9 hr39_9
  have qr39_9 := step_up hr39_9 (by omega) (by omega)
  refine doG_v (opV_indexAddr ar161 rfl rfl (by first | decide | omega) (by first | decide | omega)) rfl rfl rfl ?_
  refine doG_nil ?_
  refine tail_nil ?_
  refine doL_store 5 ty2 rfl rfl rfl rfl rfl rfl rfl rfl ?_
  refine doL_nil ?_
  refine post_block_normal ?_
  refine post_then ?_
  refine doC_region ?_
  refine doL_v (opV_move rfl) rfl rfl rfl ?_
  refine doL_v (opV_add rfl rfl (by first | exact i64_in ⟨by omega, by omega⟩ | rfl)) rfl rfl rfl ?_
  refine doL_v (opV_assign rfl) rfl rfl rfl ?_
  refine doL_nil ?_
  refine post_rounds ?_
  refine doR_succ ?_
  refine doC_seq ?_
  refine doC_seq ?_
  refine doC_keep (ks := [0, 2, 3, 4, 5, 6]) rfl ?_
  refine doC_region ?_
  refine doL_v (opV_move rfl) rfl rfl rfl ?_
  refine doL_v (opV_lss rfl rfl) rfl rfl rfl ?_
  refine doL_nil ?_
  refine post_then ?_
  refine doC_cond_f rfl (by decide) ?_
  refine doC_exit ?_
  refine post_then_exit ?_
  refine post_then_exit ?_
  refine post_block_exit ?_
  refine post_then ?_
  refine doC_seq ?_
  refine doC_perm [[0, 1, 2, 3], [0, 2, 1, 3], [1, 0, 2, 3]] mo (by kernel_rfl) (by kernel_rfl) (by kernel_rfl) ?_
  intro p hp
  simp only [List.mem_cons, List.not_mem_nil, or_false] at hp
  rcases hp with rfl | rfl | rfl
  ·
    show DoL _ _ _ _ _ [_, _, _, _] _ _
    refine doL_v (opV_loadA 4 ty161 rfl rfl rfl) rfl rfl rfl ?_
    refine doL_v (opV_loadA 5 ty161 rfl rfl rfl) rfl rfl rfl ?_
    refine doL_store 2 ty161 rfl rfl rfl rfl rfl rfl rfl rfl ?_
    refine doL_store 3 ty161 rfl rfl rfl rfl rfl rfl rfl rfl ?_
    refine doL_nil ?_
    refine post_then ?_
    refine doC_ret ?_
    refine post_rets (rs := [.cell 2 161, .cell 3 161]) rfl (resC (resIs_cell 2 rfl rfl ty161 rfl) (resC (resIs_cell 3 rfl rfl ty161 rfl) (resN))) ?_
    subst_vars; rfl
  ·
    show DoL _ _ _ _ _ [_, _, _, _] _ _
    refine doL_v (opV_loadA 4 ty161 rfl rfl rfl) rfl rfl rfl ?_
    refine doL_store 2 ty161 rfl rfl rfl rfl rfl rfl rfl rfl ?_
    refine doL_v (opV_loadA 5 ty161 rfl rfl rfl) rfl rfl rfl ?_
    refine doL_store 3 ty161 rfl rfl rfl rfl rfl rfl rfl rfl ?_
    refine doL_nil ?_
    refine post_then ?_
    refine doC_ret ?_
    refine post_rets (rs := [.cell 2 161, .cell 3 161]) rfl (resC (resIs_cell 2 rfl rfl ty161 rfl) (resC (resIs_cell 3 rfl rfl ty161 rfl) (resN))) ?_
    subst_vars; rfl
  ·
    show DoL _ _ _ _ _ [_, _, _, _] _ _
    refine doL_v (opV_loadA 5 ty161 rfl rfl rfl) rfl rfl rfl ?_
    refine doL_v (opV_loadA 4 ty161 rfl rfl rfl) rfl rfl rfl ?_
    refine doL_store 2 ty161 rfl rfl rfl rfl rfl rfl rfl rfl ?_
    refine doL_store 3 ty161 rfl rfl rfl rfl rfl rfl rfl rfl ?_
    refine doL_nil ?_
    refine post_then ?_
    refine doC_ret ?_
    refine post_rets (rs := [.cell 2 161, .cell 3 161]) rfl (resC (resIs_cell 2 rfl rfl ty161 rfl) (resC (resIs_cell 3 rfl rfl ty161 rfl) (resN))) ?_
    subst_vars; rfl
theorem alt4  (b : Nat) (x1 x2 x3 x4 : Int) (h1 : 0 ≤ x1 ∧ x1 ≤ 1073741825) (h2 : 0 ≤ x2 ∧ x2 ≤ 1073741825) (h3 : 0 ≤ x3 ∧ x3 ≤ 1073741825) (h4 : 0 ≤ x4 ∧ x4 ≤ 1073741825) (w : World) (hb : w.heap[b]? = some (.cells [.int .i64 x1, .int .i64 x2, .int .i64 x3, .int .i64 x4].toArray 2)) : Calls Try.prog 169 [.slice (some ⟨b, 0, none⟩) 4 4].toArray w (Rets (vI (x1 - x2 + x3 - x4)) (w)) := by
  refine calls_of_doC (n := 22) Try.func169 rfl rfl rfl ?_
  refine doC_seq ?_
  refine doC_region ?_
  refine doL_v (opV_assign rfl) rfl rfl rfl ?_
  refine doL_nil ?_
  refine post_then ?_
  refine doC_seq ?_
  refine doC_region ?_
  refine doL_v (opV_assign rfl) rfl rfl rfl ?_
  refine doL_v (opV_assign rfl) rfl rfl rfl ?_
  refine doL_nil ?_
  refine post_then ?_
  refine doC_seq ?_
  refine doC_seq ?_
  refine doC_region ?_
  refine doL_v (opV_move rfl) rfl rfl rfl ?_
  refine doL_v (opV_len_slice sl95 rfl) rfl rfl rfl ?_
  refine doL_v (opV_move rfl) rfl rfl rfl ?_
  refine doL_nil ?_
  refine post_then ?_
  refine doC_block ?_
  refine doC_rounds 5 ?_
  refine doR_succ ?_
  refine doC_seq ?_
  refine doC_keep (ks := [2, 3, 4, 7, 8, 9]) rfl ?_
  refine doC_region ?_
  refine doL_v (opV_lss rfl rfl) rfl rfl rfl ?_
  refine doL_nil ?_
  refine post_then ?_
  refine doC_seq ?_
  refine doC_cond_t rfl (by decide) ?_
  refine doC_skip ?_
  refine post_then ?_
  refine doC_seq ?_
  refine doC_block ?_
  refine doC_seq ?_
  refine doC_region ?_
  refine doL_v (opV_indexSlice sl95 rfl rfl (by first | decide | omega) (by first | decide | omega)) rfl rfl rfl ?_
  refine doL_v (opV_load1_old ty2 rfl (heap_lt hb) (by rw [cell_at hb]; rfl)) rfl rfl rfl ?_
  refine doL_v (opV_assign rfl) rfl rfl rfl ?_
  refine doL_nil ?_
  refine post_then ?_
  refine doC_seq ?_
  refine doC_region ?_
  refine doL_v (opV_move rfl) rfl rfl rfl ?_
  refine doL_v (opV_move rfl) rfl rfl rfl ?_
  refine doL_v (opV_move rfl) rfl rfl rfl ?_
  refine doL_v (opV_mul rfl rfl (by first | exact i64_in ⟨by omega, by omega⟩ | rfl)) rfl rfl rfl ?_
  refine doL_v (opV_add rfl rfl (by first | exact i64_in ⟨by omega, by omega⟩ | rfl)) rfl rfl rfl ?_
  refine doL_v (opV_assign rfl) rfl rfl rfl ?_
  refine doL_nil ?_
  refine post_then ?_
  refine doC_region ?_
  refine doL_v (opV_move rfl) rfl rfl rfl ?_
  refine doL_v (opV_neg rfl (by first | exact neg_in ⟨by omega, by omega⟩ | rfl)) rfl rfl rfl ?_
  refine doL_v (opV_assign rfl) rfl rfl rfl ?_
  refine doL_nil ?_
  refine post_block_normal ?_
  refine post_then ?_
  refine doC_region ?_
  refine doL_v (opV_add rfl rfl (by first | exact i64_in ⟨by omega, by omega⟩ | rfl)) rfl rfl rfl ?_
  refine doL_v (opV_move rfl) rfl rfl rfl ?_
  refine doL_nil ?_
  refine post_rounds ?_
  refine doR_succ ?_
  refine doC_seq ?_
  refine doC_keep (ks := [2, 3, 4, 7, 8, 9]) rfl ?_
  refine doC_region ?_
  refine doL_v (opV_lss rfl rfl) rfl rfl rfl ?_
  refine doL_nil ?_
  refine post_then ?_
  refine doC_seq ?_
  refine doC_cond_t rfl (by decide) ?_
  refine doC_skip ?_
  refine post_then ?_
  refine doC_seq ?_
  refine doC_block ?_
  refine doC_seq ?_
  refine doC_region ?_
  refine doL_v (opV_indexSlice sl95 rfl rfl (by first | decide | omega) (by first | decide | omega)) rfl rfl rfl ?_
  refine doL_v (opV_load1_old ty2 rfl (heap_lt hb) (by rw [cell_at hb]; rfl)) rfl rfl rfl ?_
  refine doL_v (opV_assign rfl) rfl rfl rfl ?_
  refine doL_nil ?_
  refine post_then ?_
  refine doC_seq ?_
  refine doC_region ?_
  refine doL_v (opV_move rfl) rfl rfl rfl ?_
  refine doL_v (opV_move rfl) rfl rfl rfl ?_
  refine doL_v (opV_move rfl) rfl rfl rfl ?_
  refine doL_v (opV_mul rfl rfl (by first | exact i64_in ⟨by omega, by omega⟩ | rfl)) rfl rfl rfl ?_
  refine doL_v (opV_add rfl rfl (by first | exact i64_in ⟨by omega, by omega⟩ | rfl)) rfl rfl rfl ?_
  refine doL_v (opV_assign rfl) rfl rfl rfl ?_
  refine doL_nil ?_
  refine post_then ?_
  refine doC_region ?_
  refine doL_v (opV_move rfl) rfl rfl rfl ?_
  refine doL_v (opV_neg rfl (by first | exact neg_in ⟨by omega, by omega⟩ | rfl)) rfl rfl rfl ?_
  refine doL_v (opV_assign rfl) rfl rfl rfl ?_
  refine doL_nil ?_
  refine post_block_normal ?_
  refine post_then ?_
  refine doC_region ?_
  refine doL_v (opV_add rfl rfl (by first | exact i64_in ⟨by omega, by omega⟩ | rfl)) rfl rfl rfl ?_
  refine doL_v (opV_move rfl) rfl rfl rfl ?_
  refine doL_nil ?_
  refine post_rounds ?_
  refine doR_succ ?_
  refine doC_seq ?_
  refine doC_keep (ks := [2, 3, 4, 7, 8, 9]) rfl ?_
  refine doC_region ?_
  refine doL_v (opV_lss rfl rfl) rfl rfl rfl ?_
  refine doL_nil ?_
  refine post_then ?_
  refine doC_seq ?_
  refine doC_cond_t rfl (by decide) ?_
  refine doC_skip ?_
  refine post_then ?_
  refine doC_seq ?_
  refine doC_block ?_
  refine doC_seq ?_
  refine doC_region ?_
  refine doL_v (opV_indexSlice sl95 rfl rfl (by first | decide | omega) (by first | decide | omega)) rfl rfl rfl ?_
  refine doL_v (opV_load1_old ty2 rfl (heap_lt hb) (by rw [cell_at hb]; rfl)) rfl rfl rfl ?_
  refine doL_v (opV_assign rfl) rfl rfl rfl ?_
  refine doL_nil ?_
  refine post_then ?_
  refine doC_seq ?_
  refine doC_region ?_
  refine doL_v (opV_move rfl) rfl rfl rfl ?_
  refine doL_v (opV_move rfl) rfl rfl rfl ?_
  refine doL_v (opV_move rfl) rfl rfl rfl ?_
  refine doL_v (opV_mul rfl rfl (by first | exact i64_in ⟨by omega, by omega⟩ | rfl)) rfl rfl rfl ?_
  refine doL_v (opV_add rfl rfl (by first | exact i64_in ⟨by omega, by omega⟩ | rfl)) rfl rfl rfl ?_
  refine doL_v (opV_assign rfl) rfl rfl rfl ?_
  refine doL_nil ?_
  refine post_then ?_
  refine doC_region ?_
  refine doL_v (opV_move rfl) rfl rfl rfl ?_
  refine doL_v (opV_neg rfl (by first | exact neg_in ⟨by omega, by omega⟩ | rfl)) rfl rfl rfl ?_
  refine doL_v (opV_assign rfl) rfl rfl rfl ?_
  refine doL_nil ?_
  refine post_block_normal ?_
  refine post_then ?_
  refine doC_region ?_
  refine doL_v (opV_add rfl rfl (by first | exact i64_in ⟨by omega, by omega⟩ | rfl)) rfl rfl rfl ?_
  refine doL_v (opV_move rfl) rfl rfl rfl ?_
  refine doL_nil ?_
  refine post_rounds ?_
  refine doR_succ ?_
  refine doC_seq ?_
  refine doC_keep (ks := [2, 3, 4, 7, 8, 9]) rfl ?_
  refine doC_region ?_
  refine doL_v (opV_lss rfl rfl) rfl rfl rfl ?_
  refine doL_nil ?_
  refine post_then ?_
  refine doC_seq ?_
  refine doC_cond_t rfl (by decide) ?_
  refine doC_skip ?_
  refine post_then ?_
  refine doC_seq ?_
  refine doC_block ?_
  refine doC_seq ?_
  refine doC_region ?_
  refine doL_v (opV_indexSlice sl95 rfl rfl (by first | decide | omega) (by first | decide | omega)) rfl rfl rfl ?_
  refine doL_v (opV_load1_old ty2 rfl (heap_lt hb) (by rw [cell_at hb]; rfl)) rfl rfl rfl ?_
  refine doL_v (opV_assign rfl) rfl rfl rfl ?_
  refine doL_nil ?_
  refine post_then ?_
  refine doC_seq ?_
  refine doC_region ?_
  refine doL_v (opV_move rfl) rfl rfl rfl ?_
  refine doL_v (opV_move rfl) rfl rfl rfl ?_
  refine doL_v (opV_move rfl) rfl rfl rfl ?_
  refine doL_v (opV_mul rfl rfl (by first | exact i64_in ⟨by omega, by omega⟩ | rfl)) rfl rfl rfl ?_
  refine doL_v (opV_add rfl rfl (by first | exact i64_in ⟨by omega, by omega⟩ | rfl)) rfl rfl rfl ?_
  refine doL_v (opV_assign rfl) rfl rfl rfl ?_
  refine doL_nil ?_
  refine post_then ?_
  refine doC_region ?_
  refine doL_v (opV_move rfl) rfl rfl rfl ?_
  refine doL_v (opV_neg rfl (by first | exact neg_in ⟨by omega, by omega⟩ | rfl)) rfl rfl rfl ?_
  refine doL_v (opV_assign rfl) rfl rfl rfl ?_
  refine doL_nil ?_
  refine post_block_normal ?_
  refine post_then ?_
  refine doC_region ?_
  refine doL_v (opV_add rfl rfl (by first | exact i64_in ⟨by omega, by omega⟩ | rfl)) rfl rfl rfl ?_
  refine doL_v (opV_move rfl) rfl rfl rfl ?_
  refine doL_nil ?_
  refine post_rounds ?_
  refine doR_succ ?_
  refine doC_seq ?_
  refine doC_keep (ks := [2, 3, 4, 7, 8, 9]) rfl ?_
  refine doC_region ?_
  refine doL_v (opV_lss rfl rfl) rfl rfl rfl ?_
  refine doL_nil ?_
  refine post_then ?_
  refine doC_seq ?_
  refine doC_cond_f rfl (by decide) ?_
  refine doC_exit ?_
  refine post_then_exit ?_
  refine post_then_exit ?_
  refine post_block_exit ?_
  refine post_then ?_
  refine doC_seq ?_
  refine doC_region ?_
  refine doL_v (opV_move rfl) rfl rfl rfl ?_
  refine doL_v (opV_assign rfl) rfl rfl rfl ?_
  refine doL_nil ?_
  refine post_then ?_
  refine doC_ret ?_
  refine post_rets (rs := [.tmp 2]) rfl (resC (resIs_tmp rfl) (resN)) (congrArg (vI) (?_ : _ = x1 - x2 + x3 - x4))
  omega
theorem alt5  (b : Nat) (x1 x2 x3 x4 x5 : Int) (h1 : 0 ≤ x1 ∧ x1 ≤ 1073741825) (h2 : 0 ≤ x2 ∧ x2 ≤ 1073741825) (h3 : 0 ≤ x3 ∧ x3 ≤ 1073741825) (h4 : 0 ≤ x4 ∧ x4 ≤ 1073741825) (h5 : 0 ≤ x5 ∧ x5 ≤ 1073741825) (w : World) (hb : w.heap[b]? = some (.cells [.int .i64 x1, .int .i64 x2, .int .i64 x3, .int .i64 x4, .int .i64 x5].toArray 2)) : Calls Try.prog 169 [.slice (some ⟨b, 0, none⟩) 5 5].toArray w (Rets (vI (x1 - x2 + x3 - x4 + x5)) (w)) := by
  refine calls_of_doC (n := 22) Try.func169 rfl rfl rfl ?_
  refine doC_seq ?_
  refine doC_region ?_
  refine doL_v (opV_assign rfl) rfl rfl rfl ?_
  refine doL_nil ?_
  refine post_then ?_
  refine doC_seq ?_
  refine doC_region ?_
  refine doL_v (opV_assign rfl) rfl rfl rfl ?_
  refine doL_v (opV_assign rfl) rfl rfl rfl ?_
  refine doL_nil ?_
  refine post_then ?_
  refine doC_seq ?_
  refine doC_seq ?_
  refine doC_region ?_
  refine doL_v (opV_move rfl) rfl rfl rfl ?_
  refine doL_v (opV_len_slice sl95 rfl) rfl rfl rfl ?_
  refine doL_v (opV_move rfl) rfl rfl rfl ?_
  refine doL_nil ?_
  refine post_then ?_
  refine doC_block ?_
  refine doC_rounds 6 ?_
  refine doR_succ ?_
  refine doC_seq ?_
  refine doC_keep (ks := [2, 3, 4, 7, 8, 9]) rfl ?_
  refine doC_region ?_
  refine doL_v (opV_lss rfl rfl) rfl rfl rfl ?_
  refine doL_nil ?_
  refine post_then ?_
  refine doC_seq ?_
  refine doC_cond_t rfl (by decide) ?_
  refine doC_skip ?_
  refine post_then ?_
  refine doC_seq ?_
  refine doC_block ?_
  refine doC_seq ?_
  refine doC_region ?_
  refine doL_v (opV_indexSlice sl95 rfl rfl (by first | decide | omega) (by first | decide | omega)) rfl rfl rfl ?_
  refine doL_v (opV_load1_old ty2 rfl (heap_lt hb) (by rw [cell_at hb]; rfl)) rfl rfl rfl ?_
  refine doL_v (opV_assign rfl) rfl rfl rfl ?_
  refine doL_nil ?_
  refine post_then ?_
  refine doC_seq ?_
  refine doC_region ?_
  refine doL_v (opV_move rfl) rfl rfl rfl ?_
  refine doL_v (opV_move rfl) rfl rfl rfl ?_
  refine doL_v (opV_move rfl) rfl rfl rfl ?_
  refine doL_v (opV_mul rfl rfl (by first | exact i64_in ⟨by omega, by omega⟩ | rfl)) rfl rfl rfl ?_
  refine doL_v (opV_add rfl rfl (by first | exact i64_in ⟨by omega, by omega⟩ | rfl)) rfl rfl rfl ?_
  refine doL_v (opV_assign rfl) rfl rfl rfl ?_
  refine doL_nil ?_
  refine post_then ?_
  refine doC_region ?_
  refine doL_v (opV_move rfl) rfl rfl rfl ?_
  refine doL_v (opV_neg rfl (by first | exact neg_in ⟨by omega, by omega⟩ | rfl)) rfl rfl rfl ?_
  refine doL_v (opV_assign rfl) rfl rfl rfl ?_
  refine doL_nil ?_
  refine post_block_normal ?_
  refine post_then ?_
  refine doC_region ?_
  refine doL_v (opV_add rfl rfl (by first | exact i64_in ⟨by omega, by omega⟩ | rfl)) rfl rfl rfl ?_
  refine doL_v (opV_move rfl) rfl rfl rfl ?_
  refine doL_nil ?_
  refine post_rounds ?_
  refine doR_succ ?_
  refine doC_seq ?_
  refine doC_keep (ks := [2, 3, 4, 7, 8, 9]) rfl ?_
  refine doC_region ?_
  refine doL_v (opV_lss rfl rfl) rfl rfl rfl ?_
  refine doL_nil ?_
  refine post_then ?_
  refine doC_seq ?_
  refine doC_cond_t rfl (by decide) ?_
  refine doC_skip ?_
  refine post_then ?_
  refine doC_seq ?_
  refine doC_block ?_
  refine doC_seq ?_
  refine doC_region ?_
  refine doL_v (opV_indexSlice sl95 rfl rfl (by first | decide | omega) (by first | decide | omega)) rfl rfl rfl ?_
  refine doL_v (opV_load1_old ty2 rfl (heap_lt hb) (by rw [cell_at hb]; rfl)) rfl rfl rfl ?_
  refine doL_v (opV_assign rfl) rfl rfl rfl ?_
  refine doL_nil ?_
  refine post_then ?_
  refine doC_seq ?_
  refine doC_region ?_
  refine doL_v (opV_move rfl) rfl rfl rfl ?_
  refine doL_v (opV_move rfl) rfl rfl rfl ?_
  refine doL_v (opV_move rfl) rfl rfl rfl ?_
  refine doL_v (opV_mul rfl rfl (by first | exact i64_in ⟨by omega, by omega⟩ | rfl)) rfl rfl rfl ?_
  refine doL_v (opV_add rfl rfl (by first | exact i64_in ⟨by omega, by omega⟩ | rfl)) rfl rfl rfl ?_
  refine doL_v (opV_assign rfl) rfl rfl rfl ?_
  refine doL_nil ?_
  refine post_then ?_
  refine doC_region ?_
  refine doL_v (opV_move rfl) rfl rfl rfl ?_
  refine doL_v (opV_neg rfl (by first | exact neg_in ⟨by omega, by omega⟩ | rfl)) rfl rfl rfl ?_
  refine doL_v (opV_assign rfl) rfl rfl rfl ?_
  refine doL_nil ?_
  refine post_block_normal ?_
  refine post_then ?_
  refine doC_region ?_
  refine doL_v (opV_add rfl rfl (by first | exact i64_in ⟨by omega, by omega⟩ | rfl)) rfl rfl rfl ?_
  refine doL_v (opV_move rfl) rfl rfl rfl ?_
  refine doL_nil ?_
  refine post_rounds ?_
  refine doR_succ ?_
  refine doC_seq ?_
  refine doC_keep (ks := [2, 3, 4, 7, 8, 9]) rfl ?_
  refine doC_region ?_
  refine doL_v (opV_lss rfl rfl) rfl rfl rfl ?_
  refine doL_nil ?_
  refine post_then ?_
  refine doC_seq ?_
  refine doC_cond_t rfl (by decide) ?_
  refine doC_skip ?_
  refine post_then ?_
  refine doC_seq ?_
  refine doC_block ?_
  refine doC_seq ?_
  refine doC_region ?_
  refine doL_v (opV_indexSlice sl95 rfl rfl (by first | decide | omega) (by first | decide | omega)) rfl rfl rfl ?_
  refine doL_v (opV_load1_old ty2 rfl (heap_lt hb) (by rw [cell_at hb]; rfl)) rfl rfl rfl ?_
  refine doL_v (opV_assign rfl) rfl rfl rfl ?_
  refine doL_nil ?_
  refine post_then ?_
  refine doC_seq ?_
  refine doC_region ?_
  refine doL_v (opV_move rfl) rfl rfl rfl ?_
  refine doL_v (opV_move rfl) rfl rfl rfl ?_
  refine doL_v (opV_move rfl) rfl rfl rfl ?_
  refine doL_v (opV_mul rfl rfl (by first | exact i64_in ⟨by omega, by omega⟩ | rfl)) rfl rfl rfl ?_
  refine doL_v (opV_add rfl rfl (by first | exact i64_in ⟨by omega, by omega⟩ | rfl)) rfl rfl rfl ?_
  refine doL_v (opV_assign rfl) rfl rfl rfl ?_
  refine doL_nil ?_
  refine post_then ?_
  refine doC_region ?_
  refine doL_v (opV_move rfl) rfl rfl rfl ?_
  refine doL_v (opV_neg rfl (by first | exact neg_in ⟨by omega, by omega⟩ | rfl)) rfl rfl rfl ?_
  refine doL_v (opV_assign rfl) rfl rfl rfl ?_
  refine doL_nil ?_
  refine post_block_normal ?_
  refine post_then ?_
  refine doC_region ?_
  refine doL_v (opV_add rfl rfl (by first | exact i64_in ⟨by omega, by omega⟩ | rfl)) rfl rfl rfl ?_
  refine doL_v (opV_move rfl) rfl rfl rfl ?_
  refine doL_nil ?_
  refine post_rounds ?_
  refine doR_succ ?_
  refine doC_seq ?_
  refine doC_keep (ks := [2, 3, 4, 7, 8, 9]) rfl ?_
  refine doC_region ?_
  refine doL_v (opV_lss rfl rfl) rfl rfl rfl ?_
  refine doL_nil ?_
  refine post_then ?_
  refine doC_seq ?_
  refine doC_cond_t rfl (by decide) ?_
  refine doC_skip ?_
  refine post_then ?_
  refine doC_seq ?_
  refine doC_block ?_
  refine doC_seq ?_
  refine doC_region ?_
  refine doL_v (opV_indexSlice sl95 rfl rfl (by first | decide | omega) (by first | decide | omega)) rfl rfl rfl ?_
  refine doL_v (opV_load1_old ty2 rfl (heap_lt hb) (by rw [cell_at hb]; rfl)) rfl rfl rfl ?_
  refine doL_v (opV_assign rfl) rfl rfl rfl ?_
  refine doL_nil ?_
  refine post_then ?_
  refine doC_seq ?_
  refine doC_region ?_
  refine doL_v (opV_move rfl) rfl rfl rfl ?_
  refine doL_v (opV_move rfl) rfl rfl rfl ?_
  refine doL_v (opV_move rfl) rfl rfl rfl ?_
  refine doL_v (opV_mul rfl rfl (by first | exact i64_in ⟨by omega, by omega⟩ | rfl)) rfl rfl rfl ?_
  refine doL_v (opV_add rfl rfl (by first | exact i64_in ⟨by omega, by omega⟩ | rfl)) rfl rfl rfl ?_
  refine doL_v (opV_assign rfl) rfl rfl rfl ?_
  refine doL_nil ?_
  refine post_then ?_
  refine doC_region ?_
  refine doL_v (opV_move rfl) rfl rfl rfl ?_
  refine doL_v (opV_neg rfl (by first | exact neg_in ⟨by omega, by omega⟩ | rfl)) rfl rfl rfl ?_
  refine doL_v (opV_assign rfl) rfl rfl rfl ?_
  refine doL_nil ?_
  refine post_block_normal ?_
  refine post_then ?_
  refine doC_region ?_
  refine doL_v (opV_add rfl rfl (by first | exact i64_in ⟨by omega, by omega⟩ | rfl)) rfl rfl rfl ?_
  refine doL_v (opV_move rfl) rfl rfl rfl ?_
  refine doL_nil ?_
  refine post_rounds ?_
  refine doR_succ ?_
  refine doC_seq ?_
  refine doC_keep (ks := [2, 3, 4, 7, 8, 9]) rfl ?_
  refine doC_region ?_
  refine doL_v (opV_lss rfl rfl) rfl rfl rfl ?_
  refine doL_nil ?_
  refine post_then ?_
  refine doC_seq ?_
  refine doC_cond_t rfl (by decide) ?_
  refine doC_skip ?_
  refine post_then ?_
  refine doC_seq ?_
  refine doC_block ?_
  refine doC_seq ?_
  refine doC_region ?_
  refine doL_v (opV_indexSlice sl95 rfl rfl (by first | decide | omega) (by first | decide | omega)) rfl rfl rfl ?_
  refine doL_v (opV_load1_old ty2 rfl (heap_lt hb) (by rw [cell_at hb]; rfl)) rfl rfl rfl ?_
  refine doL_v (opV_assign rfl) rfl rfl rfl ?_
  refine doL_nil ?_
  refine post_then ?_
  refine doC_seq ?_
  refine doC_region ?_
  refine doL_v (opV_move rfl) rfl rfl rfl ?_
  refine doL_v (opV_move rfl) rfl rfl rfl ?_
  refine doL_v (opV_move rfl) rfl rfl rfl ?_
  refine doL_v (opV_mul rfl rfl (by first | exact i64_in ⟨by omega, by omega⟩ | rfl)) rfl rfl rfl ?_
  refine doL_v (opV_add rfl rfl (by first | exact i64_in ⟨by omega, by omega⟩ | rfl)) rfl rfl rfl ?_
  refine doL_v (opV_assign rfl) rfl rfl rfl ?_
  refine doL_nil ?_
  refine post_then ?_
  refine doC_region ?_
  refine doL_v (opV_move rfl) rfl rfl rfl ?_
  refine doL_v (opV_neg rfl (by first | exact neg_in ⟨by omega, by omega⟩ | rfl)) rfl rfl rfl ?_
  refine doL_v (opV_assign rfl) rfl rfl rfl ?_
  refine doL_nil ?_
  refine post_block_normal ?_
  refine post_then ?_
  refine doC_region ?_
  refine doL_v (opV_add rfl rfl (by first | exact i64_in ⟨by omega, by omega⟩ | rfl)) rfl rfl rfl ?_
  refine doL_v (opV_move rfl) rfl rfl rfl ?_
  refine doL_nil ?_
  refine post_rounds ?_
  refine doR_succ ?_
  refine doC_seq ?_
  refine doC_keep (ks := [2, 3, 4, 7, 8, 9]) rfl ?_
  refine doC_region ?_
  refine doL_v (opV_lss rfl rfl) rfl rfl rfl ?_
  refine doL_nil ?_
  refine post_then ?_
  refine doC_seq ?_
  refine doC_cond_f rfl (by decide) ?_
  refine doC_exit ?_
  refine post_then_exit ?_
  refine post_then_exit ?_
  refine post_block_exit ?_
  refine post_then ?_
  refine doC_seq ?_
  refine doC_region ?_
  refine doL_v (opV_move rfl) rfl rfl rfl ?_
  refine doL_v (opV_assign rfl) rfl rfl rfl ?_
  refine doL_nil ?_
  refine post_then ?_
  refine doC_ret ?_
  refine post_rets (rs := [.tmp 2]) rfl (resC (resIs_tmp rfl) (resN)) (congrArg (vI) (?_ : _ = x1 - x2 + x3 - x4 + x5))
  omega
theorem alt6  (b : Nat) (x1 x2 x3 x4 x5 x6 : Int) (h1 : 0 ≤ x1 ∧ x1 ≤ 1073741825) (h2 : 0 ≤ x2 ∧ x2 ≤ 1073741825) (h3 : 0 ≤ x3 ∧ x3 ≤ 1073741825) (h4 : 0 ≤ x4 ∧ x4 ≤ 1073741825) (h5 : 0 ≤ x5 ∧ x5 ≤ 1073741825) (h6 : 0 ≤ x6 ∧ x6 ≤ 1073741825) (w : World) (hb : w.heap[b]? = some (.cells [.int .i64 x1, .int .i64 x2, .int .i64 x3, .int .i64 x4, .int .i64 x5, .int .i64 x6].toArray 2)) : Calls Try.prog 169 [.slice (some ⟨b, 0, none⟩) 6 6].toArray w (Rets (vI (x1 - x2 + x3 - x4 + x5 - x6)) (w)) := by
  refine calls_of_doC (n := 22) Try.func169 rfl rfl rfl ?_
  refine doC_seq ?_
  refine doC_region ?_
  refine doL_v (opV_assign rfl) rfl rfl rfl ?_
  refine doL_nil ?_
  refine post_then ?_
  refine doC_seq ?_
  refine doC_region ?_
  refine doL_v (opV_assign rfl) rfl rfl rfl ?_
  refine doL_v (opV_assign rfl) rfl rfl rfl ?_
  refine doL_nil ?_
  refine post_then ?_
  refine doC_seq ?_
  refine doC_seq ?_
  refine doC_region ?_
  refine doL_v (opV_move rfl) rfl rfl rfl ?_
  refine doL_v (opV_len_slice sl95 rfl) rfl rfl rfl ?_
  refine doL_v (opV_move rfl) rfl rfl rfl ?_
  refine doL_nil ?_
  refine post_then ?_
  refine doC_block ?_
  refine doC_rounds 7 ?_
  refine doR_succ ?_
  refine doC_seq ?_
  refine doC_keep (ks := [2, 3, 4, 7, 8, 9]) rfl ?_
  refine doC_region ?_
  refine doL_v (opV_lss rfl rfl) rfl rfl rfl ?_
  refine doL_nil ?_
  refine post_then ?_
  refine doC_seq ?_
  refine doC_cond_t rfl (by decide) ?_
  refine doC_skip ?_
  refine post_then ?_
  refine doC_seq ?_
  refine doC_block ?_
  refine doC_seq ?_
  refine doC_region ?_
  refine doL_v (opV_indexSlice sl95 rfl rfl (by first | decide | omega) (by first | decide | omega)) rfl rfl rfl ?_
  refine doL_v (opV_load1_old ty2 rfl (heap_lt hb) (by rw [cell_at hb]; rfl)) rfl rfl rfl ?_
  refine doL_v (opV_assign rfl) rfl rfl rfl ?_
  refine doL_nil ?_
  refine post_then ?_
  refine doC_seq ?_
  refine doC_region ?_
  refine doL_v (opV_move rfl) rfl rfl rfl ?_
  refine doL_v (opV_move rfl) rfl rfl rfl ?_
  refine doL_v (opV_move rfl) rfl rfl rfl ?_
  refine doL_v (opV_mul rfl rfl (by first | exact i64_in ⟨by omega, by omega⟩ | rfl)) rfl rfl rfl ?_
  refine doL_v (opV_add rfl rfl (by first | exact i64_in ⟨by omega, by omega⟩ | rfl)) rfl rfl rfl ?_
  refine doL_v (opV_assign rfl) rfl rfl rfl ?_
  refine doL_nil ?_
  refine post_then ?_
  refine doC_region ?_
  refine doL_v (opV_move rfl) rfl rfl rfl ?_
  refine doL_v (opV_neg rfl (by first | exact neg_in ⟨by omega, by omega⟩ | rfl)) rfl rfl rfl ?_
  refine doL_v (opV_assign rfl) rfl rfl rfl ?_
  refine doL_nil ?_
  refine post_block_normal ?_
  refine post_then ?_
  refine doC_region ?_
  refine doL_v (opV_add rfl rfl (by first | exact i64_in ⟨by omega, by omega⟩ | rfl)) rfl rfl rfl ?_
  refine doL_v (opV_move rfl) rfl rfl rfl ?_
  refine doL_nil ?_
  refine post_rounds ?_
  refine doR_succ ?_
  refine doC_seq ?_
  refine doC_keep (ks := [2, 3, 4, 7, 8, 9]) rfl ?_
  refine doC_region ?_
  refine doL_v (opV_lss rfl rfl) rfl rfl rfl ?_
  refine doL_nil ?_
  refine post_then ?_
  refine doC_seq ?_
  refine doC_cond_t rfl (by decide) ?_
  refine doC_skip ?_
  refine post_then ?_
  refine doC_seq ?_
  refine doC_block ?_
  refine doC_seq ?_
  refine doC_region ?_
  refine doL_v (opV_indexSlice sl95 rfl rfl (by first | decide | omega) (by first | decide | omega)) rfl rfl rfl ?_
  refine doL_v (opV_load1_old ty2 rfl (heap_lt hb) (by rw [cell_at hb]; rfl)) rfl rfl rfl ?_
  refine doL_v (opV_assign rfl) rfl rfl rfl ?_
  refine doL_nil ?_
  refine post_then ?_
  refine doC_seq ?_
  refine doC_region ?_
  refine doL_v (opV_move rfl) rfl rfl rfl ?_
  refine doL_v (opV_move rfl) rfl rfl rfl ?_
  refine doL_v (opV_move rfl) rfl rfl rfl ?_
  refine doL_v (opV_mul rfl rfl (by first | exact i64_in ⟨by omega, by omega⟩ | rfl)) rfl rfl rfl ?_
  refine doL_v (opV_add rfl rfl (by first | exact i64_in ⟨by omega, by omega⟩ | rfl)) rfl rfl rfl ?_
  refine doL_v (opV_assign rfl) rfl rfl rfl ?_
  refine doL_nil ?_
  refine post_then ?_
  refine doC_region ?_
  refine doL_v (opV_move rfl) rfl rfl rfl ?_
  refine doL_v (opV_neg rfl (by first | exact neg_in ⟨by omega, by omega⟩ | rfl)) rfl rfl rfl ?_
  refine doL_v (opV_assign rfl) rfl rfl rfl ?_
  refine doL_nil ?_
  refine post_block_normal ?_
  refine post_then ?_
  refine doC_region ?_
  refine doL_v (opV_add rfl rfl (by first | exact i64_in ⟨by omega, by omega⟩ | rfl)) rfl rfl rfl ?_
  refine doL_v (opV_move rfl) rfl rfl rfl ?_
  refine doL_nil ?_
  refine post_rounds ?_
  refine doR_succ ?_
  refine doC_seq ?_
  refine doC_keep (ks := [2, 3, 4, 7, 8, 9]) rfl ?_
  refine doC_region ?_
  refine doL_v (opV_lss rfl rfl) rfl rfl rfl ?_
  refine doL_nil ?_
  refine post_then ?_
  refine doC_seq ?_
  refine doC_cond_t rfl (by decide) ?_
  refine doC_skip ?_
  refine post_then ?_
  refine doC_seq ?_
  refine doC_block ?_
  refine doC_seq ?_
  refine doC_region ?_
  refine doL_v (opV_indexSlice sl95 rfl rfl (by first | decide | omega) (by first | decide | omega)) rfl rfl rfl ?_
  refine doL_v (opV_load1_old ty2 rfl (heap_lt hb) (by rw [cell_at hb]; rfl)) rfl rfl rfl ?_
  refine doL_v (opV_assign rfl) rfl rfl rfl ?_
  refine doL_nil ?_
  refine post_then ?_
  refine doC_seq ?_
  refine doC_region ?_
  refine doL_v (opV_move rfl) rfl rfl rfl ?_
  refine doL_v (opV_move rfl) rfl rfl rfl ?_
  refine doL_v (opV_move rfl) rfl rfl rfl ?_
  refine doL_v (opV_mul rfl rfl (by first | exact i64_in ⟨by omega, by omega⟩ | rfl)) rfl rfl rfl ?_
  refine doL_v (opV_add rfl rfl (by first | exact i64_in ⟨by omega, by omega⟩ | rfl)) rfl rfl rfl ?_
  refine doL_v (opV_assign rfl) rfl rfl rfl ?_
  refine doL_nil ?_
  refine post_then ?_
  refine doC_region ?_
  refine doL_v (opV_move rfl) rfl rfl rfl ?_
  refine doL_v (opV_neg rfl (by first | exact neg_in ⟨by omega, by omega⟩ | rfl)) rfl rfl rfl ?_
  refine doL_v (opV_assign rfl) rfl rfl rfl ?_
  refine doL_nil ?_
  refine post_block_normal ?_
  refine post_then ?_
  refine doC_region ?_
  refine doL_v (opV_add rfl rfl (by first | exact i64_in ⟨by omega, by omega⟩ | rfl)) rfl rfl rfl ?_
  refine doL_v (opV_move rfl) rfl rfl rfl ?_
  refine doL_nil ?_
  refine post_rounds ?_
  refine doR_succ ?_
  refine doC_seq ?_
  refine doC_keep (ks := [2, 3, 4, 7, 8, 9]) rfl ?_
  refine doC_region ?_
  refine doL_v (opV_lss rfl rfl) rfl rfl rfl ?_
  refine doL_nil ?_
  refine post_then ?_
  refine doC_seq ?_
  refine doC_cond_t rfl (by decide) ?_
  refine doC_skip ?_
  refine post_then ?_
  refine doC_seq ?_
  refine doC_block ?_
  refine doC_seq ?_
  refine doC_region ?_
  refine doL_v (opV_indexSlice sl95 rfl rfl (by first | decide | omega) (by first | decide | omega)) rfl rfl rfl ?_
  refine doL_v (opV_load1_old ty2 rfl (heap_lt hb) (by rw [cell_at hb]; rfl)) rfl rfl rfl ?_
  refine doL_v (opV_assign rfl) rfl rfl rfl ?_
  refine doL_nil ?_
  refine post_then ?_
  refine doC_seq ?_
  refine doC_region ?_
  refine doL_v (opV_move rfl) rfl rfl rfl ?_
  refine doL_v (opV_move rfl) rfl rfl rfl ?_
  refine doL_v (opV_move rfl) rfl rfl rfl ?_
  refine doL_v (opV_mul rfl rfl (by first | exact i64_in ⟨by omega, by omega⟩ | rfl)) rfl rfl rfl ?_
  refine doL_v (opV_add rfl rfl (by first | exact i64_in ⟨by omega, by omega⟩ | rfl)) rfl rfl rfl ?_
  refine doL_v (opV_assign rfl) rfl rfl rfl ?_
  refine doL_nil ?_
  refine post_then ?_
  refine doC_region ?_
  refine doL_v (opV_move rfl) rfl rfl rfl ?_
  refine doL_v (opV_neg rfl (by first | exact neg_in ⟨by omega, by omega⟩ | rfl)) rfl rfl rfl ?_
  refine doL_v (opV_assign rfl) rfl rfl rfl ?_
  refine doL_nil ?_
  refine post_block_normal ?_
  refine post_then ?_
  refine doC_region ?_
  refine doL_v (opV_add rfl rfl (by first | exact i64_in ⟨by omega, by omega⟩ | rfl)) rfl rfl rfl ?_
  refine doL_v (opV_move rfl) rfl rfl rfl ?_
  refine doL_nil ?_
  refine post_rounds ?_
  refine doR_succ ?_
  refine doC_seq ?_
  refine doC_keep (ks := [2, 3, 4, 7, 8, 9]) rfl ?_
  refine doC_region ?_
  refine doL_v (opV_lss rfl rfl) rfl rfl rfl ?_
  refine doL_nil ?_
  refine post_then ?_
  refine doC_seq ?_
  refine doC_cond_t rfl (by decide) ?_
  refine doC_skip ?_
  refine post_then ?_
  refine doC_seq ?_
  refine doC_block ?_
  refine doC_seq ?_
  refine doC_region ?_
  refine doL_v (opV_indexSlice sl95 rfl rfl (by first | decide | omega) (by first | decide | omega)) rfl rfl rfl ?_
  refine doL_v (opV_load1_old ty2 rfl (heap_lt hb) (by rw [cell_at hb]; rfl)) rfl rfl rfl ?_
  refine doL_v (opV_assign rfl) rfl rfl rfl ?_
  refine doL_nil ?_
  refine post_then ?_
  refine doC_seq ?_
  refine doC_region ?_
  refine doL_v (opV_move rfl) rfl rfl rfl ?_
  refine doL_v (opV_move rfl) rfl rfl rfl ?_
  refine doL_v (opV_move rfl) rfl rfl rfl ?_
  refine doL_v (opV_mul rfl rfl (by first | exact i64_in ⟨by omega, by omega⟩ | rfl)) rfl rfl rfl ?_
  refine doL_v (opV_add rfl rfl (by first | exact i64_in ⟨by omega, by omega⟩ | rfl)) rfl rfl rfl ?_
  refine doL_v (opV_assign rfl) rfl rfl rfl ?_
  refine doL_nil ?_
  refine post_then ?_
  refine doC_region ?_
  refine doL_v (opV_move rfl) rfl rfl rfl ?_
  refine doL_v (opV_neg rfl (by first | exact neg_in ⟨by omega, by omega⟩ | rfl)) rfl rfl rfl ?_
  refine doL_v (opV_assign rfl) rfl rfl rfl ?_
  refine doL_nil ?_
  refine post_block_normal ?_
  refine post_then ?_
  refine doC_region ?_
  refine doL_v (opV_add rfl rfl (by first | exact i64_in ⟨by omega, by omega⟩ | rfl)) rfl rfl rfl ?_
  refine doL_v (opV_move rfl) rfl rfl rfl ?_
  refine doL_nil ?_
  refine post_rounds ?_
  refine doR_succ ?_
  refine doC_seq ?_
  refine doC_keep (ks := [2, 3, 4, 7, 8, 9]) rfl ?_
  refine doC_region ?_
  refine doL_v (opV_lss rfl rfl) rfl rfl rfl ?_
  refine doL_nil ?_
  refine post_then ?_
  refine doC_seq ?_
  refine doC_cond_t rfl (by decide) ?_
  refine doC_skip ?_
  refine post_then ?_
  refine doC_seq ?_
  refine doC_block ?_
  refine doC_seq ?_
  refine doC_region ?_
  refine doL_v (opV_indexSlice sl95 rfl rfl (by first | decide | omega) (by first | decide | omega)) rfl rfl rfl ?_
  refine doL_v (opV_load1_old ty2 rfl (heap_lt hb) (by rw [cell_at hb]; rfl)) rfl rfl rfl ?_
  refine doL_v (opV_assign rfl) rfl rfl rfl ?_
  refine doL_nil ?_
  refine post_then ?_
  refine doC_seq ?_
  refine doC_region ?_
  refine doL_v (opV_move rfl) rfl rfl rfl ?_
  refine doL_v (opV_move rfl) rfl rfl rfl ?_
  refine doL_v (opV_move rfl) rfl rfl rfl ?_
  refine doL_v (opV_mul rfl rfl (by first | exact i64_in ⟨by omega, by omega⟩ | rfl)) rfl rfl rfl ?_
  refine doL_v (opV_add rfl rfl (by first | exact i64_in ⟨by omega, by omega⟩ | rfl)) rfl rfl rfl ?_
  refine doL_v (opV_assign rfl) rfl rfl rfl ?_
  refine doL_nil ?_
  refine post_then ?_
  refine doC_region ?_
  refine doL_v (opV_move rfl) rfl rfl rfl ?_
  refine doL_v (opV_neg rfl (by first | exact neg_in ⟨by omega, by omega⟩ | rfl)) rfl rfl rfl ?_
  refine doL_v (opV_assign rfl) rfl rfl rfl ?_
  refine doL_nil ?_
  refine post_block_normal ?_
  refine post_then ?_
  refine doC_region ?_
  refine doL_v (opV_add rfl rfl (by first | exact i64_in ⟨by omega, by omega⟩ | rfl)) rfl rfl rfl ?_
  refine doL_v (opV_move rfl) rfl rfl rfl ?_
  refine doL_nil ?_
  refine post_rounds ?_
  refine doR_succ ?_
  refine doC_seq ?_
  refine doC_keep (ks := [2, 3, 4, 7, 8, 9]) rfl ?_
  refine doC_region ?_
  refine doL_v (opV_lss rfl rfl) rfl rfl rfl ?_
  refine doL_nil ?_
  refine post_then ?_
  refine doC_seq ?_
  refine doC_cond_f rfl (by decide) ?_
  refine doC_exit ?_
  refine post_then_exit ?_
  refine post_then_exit ?_
  refine post_block_exit ?_
  refine post_then ?_
  refine doC_seq ?_
  refine doC_region ?_
  refine doL_v (opV_move rfl) rfl rfl rfl ?_
  refine doL_v (opV_assign rfl) rfl rfl rfl ?_
  refine doL_nil ?_
  refine post_then ?_
  refine doC_ret ?_
  refine post_rets (rs := [.tmp 2]) rfl (resC (resIs_tmp rfl) (resN)) (congrArg (vI) (?_ : _ = x1 - x2 + x3 - x4 + x5 - x6))
  omega
theorem aSine (x : Int) (h : 0 ≤ x ∧ x ≤ 8192) (w : World) : Calls Try.prog 162 [.int .i64 x].toArray w (Rets (iv (sineI x)) (w)) := by
  refine calls_of_doC (n := 44) Try.func162 rfl rfl rfl ?_
  refine doC_seq ?_
  refine doC_region ?_
  refine doL_alloc 2 ze23 rfl rfl rfl ?_; intro b2
  refine doL_nil ?_
  refine post_then ?_
  refine doC_seq ?_
  refine doC_region ?_
  refine doL_v (opV_move rfl) rfl rfl rfl ?_
  refine doL_vg (F := powV) (opV_call en168 rfl (fun w _ => aPow _ (by first | omega | assumption | (unfold In64; omega) | decide) w)) rfl rfl rfl ?_; intro r9 hr9
  obtain rfl := hr9.symm
  refine doL_v (opV_move rfl) rfl rfl rfl ?_
  refine doL_v (opV_extract rfl rfl) rfl rfl rfl ?_
  refine doL_v (opV_extract rfl rfl) rfl rfl rfl ?_
  refine doL_alloc 3 ze161 rfl rfl rfl ?_; intro b3
  refine doL_alloc 4 ze161 rfl rfl rfl ?_; intro b4
  refine doL_store 3 ty161 rfl rfl rfl rfl rfl rfl rfl rfl ?_
  refine doL_store 4 ty161 rfl rfl rfl rfl rfl rfl rfl rfl ?_
  refine doL_nil ?_
  refine post_then ?_
  refine doC_seq ?_
  have d1 := dn_bnd h 1
  have d2 := dn_bnd h 2
  have d3 := dn_bnd h 3
  have d4 := dn_bnd h 4
  have d5 := dn_bnd h 5
  have d6 := dn_bnd h 6
  have d7 := dn_bnd h 7
  have d8 := dn_bnd h 8
  have u1 := up_bnd h 1
  have u2 := up_bnd h 2
  have u3 := up_bnd h 3
  have u4 := up_bnd h 4
  have u5 := up_bnd h 5
  have u6 := up_bnd h 6
  have u7 := up_bnd h 7
  have u8 := up_bnd h 8
  have u9 := up_bnd h 9
  have u10 := up_bnd h 10
  refine doC_drawn 13 mo (by kernel_rfl) ?_
  simp only [List.take_succ_cons, List.take_zero, List.drop_succ_cons, List.drop_zero]
  refine doG_v (opV_indexAddr ar161 rfl rfl (by first | decide | omega) (by first | decide | omega)) rfl rfl rfl ?_
  refine doG_v (opV_load1 3 ty2 rfl rfl rfl) rfl rfl rfl ?_
  refine doG_v (opV_indexAddr ar161 rfl rfl (by first | decide | omega) (by first | decide | omega)) rfl rfl rfl ?_
  refine doG_v (opV_load1 4 ty2 rfl rfl rfl) rfl rfl rfl ?_
  refine doG_vg (F := vI) (opV_call en170 rfl (fun w _ => aCeil _ _ (by first | omega | assumption | (unfold In64; omega) | decide) (by first | omega | assumption | (unfold In64; omega) | decide) w)) rfl rfl rfl ?_; intro r16 hr16
  have qr16 := ceil_nonneg_of hr16 (by omega) (by omega)
  refine doG_v (opV_indexAddr ar161 rfl rfl (by first | decide | omega) (by first | decide | omega)) rfl rfl rfl ?_
  refine doG_v (opV_load1 3 ty2 rfl rfl rfl) rfl rfl rfl ?_
  refine doG_v (opV_quo rfl rfl (by first | decide | omega) (by first | exact (congrArg _ (tdiv_nonneg (by omega) (by omega))).trans (i64_in ⟨by omega, by omega⟩) | rfl)) rfl rfl rfl ?_
  refine doG_v (opV_indexAddr ar161 rfl rfl (by first | decide | omega) (by first | decide | omega)) rfl rfl rfl ?_
  refine doG_v (opV_load1 4 ty2 rfl rfl rfl) rfl rfl rfl ?_
  refine doG_vg (F := vI) (opV_call en170 rfl (fun w _ => aCeil _ _ (by first | omega | assumption | (unfold In64; omega) | decide) (by first | omega | assumption | (unfold In64; omega) | decide) w)) rfl rfl rfl ?_; intro r22 hr22
  have qr22 := ceil_nonneg_of hr22 (by omega) (by omega)
  refine doG_bslice sl95 ze2 rfl rfl rfl rfl rfl rfl rfl rfl rfl ?_
  refine doG_callG (F := vI) 23 en169 rfl (fun u => rfl) (fun u w _ hT => (by obtain ⟨bb, rfl, _, _, hb⟩ := hT; exact alt4 bb _ _ _ _ (by omega) (by omega) (by omega) (by omega) w hb)) (fun u => rfl) (by decide) rfl ?_; intro r24 hr24
  refine doG_nil ?_
  refine tail_ghost ?_; intro u23
  refine tail_nil ?_
  refine doL_v (opV_assign rfl) rfl rfl rfl ?_
  refine doL_nil ?_
  refine post_then ?_
  refine doC_seq ?_
  refine doC_drawn 16 mo (by kernel_rfl) ?_
  simp only [List.take_succ_cons, List.take_zero, List.drop_succ_cons, List.drop_zero]
  refine doG_v (opV_indexAddr ar161 rfl rfl (by first | decide | omega) (by first | decide | omega)) rfl rfl rfl ?_
  refine doG_v (opV_load1 4 ty2 rfl rfl rfl) rfl rfl rfl ?_
  refine doG_v (opV_indexAddr ar161 rfl rfl (by first | decide | omega) (by first | decide | omega)) rfl rfl rfl ?_
  refine doG_v (opV_load1 3 ty2 rfl rfl rfl) rfl rfl rfl ?_
  refine doG_v (opV_quo rfl rfl (by first | decide | omega) (by first | exact (congrArg _ (tdiv_nonneg (by omega) (by omega))).trans (i64_in ⟨by omega, by omega⟩) | rfl)) rfl rfl rfl ?_
  refine doG_v (opV_indexAddr ar161 rfl rfl (by first | decide | omega) (by first | decide | omega)) rfl rfl rfl ?_
  refine doG_v (opV_load1 4 ty2 rfl rfl rfl) rfl rfl rfl ?_
  refine doG_vg (F := vI) (opV_call en170 rfl (fun w _ => aCeil _ _ (by first | omega | assumption | (unfold In64; omega) | decide) (by first | omega | assumption | (unfold In64; omega) | decide) w)) rfl rfl rfl ?_; intro r32 hr32
  have qr32 := ceil_nonneg_of hr32 (by omega) (by omega)
  refine doG_v (opV_indexAddr ar161 rfl rfl (by first | decide | omega) (by first | decide | omega)) rfl rfl rfl ?_
  refine doG_v (opV_load1 3 ty2 rfl rfl rfl) rfl rfl rfl ?_
  refine doG_v (opV_quo rfl rfl (by first | decide | omega) (by first | exact (congrArg _ (tdiv_nonneg (by omega) (by omega))).trans (i64_in ⟨by omega, by omega⟩) | rfl)) rfl rfl rfl ?_
  refine doG_v (opV_indexAddr ar161 rfl rfl (by first | decide | omega) (by first | decide | omega)) rfl rfl rfl ?_
  refine doG_v (opV_load1 4 ty2 rfl rfl rfl) rfl rfl rfl ?_
  refine doG_vg (F := vI) (opV_call en170 rfl (fun w _ => aCeil _ _ (by first | omega | assumption | (unfold In64; omega) | decide) (by first | omega | assumption | (unfold In64; omega) | decide) w)) rfl rfl rfl ?_; intro r38 hr38
  have qr38 := ceil_nonneg_of hr38 (by omega) (by omega)
  refine doG_bslice sl95 ze2 rfl rfl rfl rfl rfl rfl rfl rfl rfl ?_
  refine doG_callG (F := vI) 39 en169 rfl (fun u => rfl) (fun u w _ hT => (by obtain ⟨bb, rfl, _, _, hb⟩ := hT; exact alt5 bb _ _ _ _ _ (by omega) (by omega) (by omega) (by omega) (by omega) w hb)) (fun u => rfl) (by decide) rfl ?_; intro r40 hr40
  refine doG_nil ?_
  refine tail_ghost ?_; intro u39
  refine tail_nil ?_
  refine doL_v (opV_assign rfl) rfl rfl rfl ?_
  refine doL_nil ?_
  refine post_then ?_
  refine doC_seq ?_
  refine doC_region ?_
  refine doL_v (opV_move rfl) rfl rfl rfl ?_
  refine doL_v (opV_move rfl) rfl rfl rfl ?_
  refine doL_vg (F := iv) (opV_call en171 rfl (fun w _ => aEnc _ _ (by unfold In64; omega) w)) rfl rfl rfl ?_; intro r43 hr43
  refine doL_store 2 ty23 rfl rfl rfl rfl rfl rfl rfl rfl ?_
  refine doL_nil ?_
  refine post_then ?_
  refine doC_ret ?_
  refine post_rets (rs := [.cell 2 23]) rfl (resC (resIs_cell 2 rfl rfl ty23 rfl) (resN)) (congrArg (iv) (?_ : ⟨_, _⟩ = sineI x))
  subst_vars; rfl
theorem aCosine (x : Int) (h : 0 ≤ x ∧ x ≤ 8192) (w : World) : Calls Try.prog 163 [.int .i64 x].toArray w (Rets (iv (cosineI x)) (w)) := by
  refine calls_of_doC (n := 46) Try.func163 rfl rfl rfl ?_
  refine doC_seq ?_
  refine doC_region ?_
  refine doL_alloc 2 ze23 rfl rfl rfl ?_; intro b2
  refine doL_nil ?_
  refine post_then ?_
  refine doC_seq ?_
  refine doC_region ?_
  refine doL_v (opV_move rfl) rfl rfl rfl ?_
  refine doL_vg (F := powV) (opV_call en168 rfl (fun w _ => aPow _ (by first | omega | assumption | (unfold In64; omega) | decide) w)) rfl rfl rfl ?_; intro r9 hr9
  obtain rfl := hr9.symm
  refine doL_v (opV_move rfl) rfl rfl rfl ?_
  refine doL_v (opV_extract rfl rfl) rfl rfl rfl ?_
  refine doL_v (opV_extract rfl rfl) rfl rfl rfl ?_
  refine doL_alloc 3 ze161 rfl rfl rfl ?_; intro b3
  refine doL_alloc 4 ze161 rfl rfl rfl ?_; intro b4
  refine doL_store 3 ty161 rfl rfl rfl rfl rfl rfl rfl rfl ?_
  refine doL_store 4 ty161 rfl rfl rfl rfl rfl rfl rfl rfl ?_
  refine doL_nil ?_
  refine post_then ?_
  refine doC_seq ?_
  have d1 := dn_bnd h 1
  have d2 := dn_bnd h 2
  have d3 := dn_bnd h 3
  have d4 := dn_bnd h 4
  have d5 := dn_bnd h 5
  have d6 := dn_bnd h 6
  have d7 := dn_bnd h 7
  have d8 := dn_bnd h 8
  have u1 := up_bnd h 1
  have u2 := up_bnd h 2
  have u3 := up_bnd h 3
  have u4 := up_bnd h 4
  have u5 := up_bnd h 5
  have u6 := up_bnd h 6
  have u7 := up_bnd h 7
  have u8 := up_bnd h 8
  have u9 := up_bnd h 9
  have u10 := up_bnd h 10
  refine doC_drawn 17 mo (by kernel_rfl) ?_
  simp only [List.take_succ_cons, List.take_zero, List.drop_succ_cons, List.drop_zero]
  refine doG_v (opV_indexAddr ar161 rfl rfl (by first | decide | omega) (by first | decide | omega)) rfl rfl rfl ?_
  refine doG_v (opV_load1 4 ty2 rfl rfl rfl) rfl rfl rfl ?_
  refine doG_vg (F := vI) (opV_call en170 rfl (fun w _ => aCeil _ _ (by first | omega | assumption | (unfold In64; omega) | decide) (by first | omega | assumption | (unfold In64; omega) | decide) w)) rfl rfl rfl ?_; intro r14 hr14
  have qr14 := ceil_nonneg_of hr14 (by omega) (by omega)
  refine doG_v (opV_indexAddr ar161 rfl rfl (by first | decide | omega) (by first | decide | omega)) rfl rfl rfl ?_
  refine doG_v (opV_load1 3 ty2 rfl rfl rfl) rfl rfl rfl ?_
  refine doG_v (opV_quo rfl rfl (by first | decide | omega) (by first | exact (congrArg _ (tdiv_nonneg (by omega) (by omega))).trans (i64_in ⟨by omega, by omega⟩) | rfl)) rfl rfl rfl ?_
  refine doG_v (opV_indexAddr ar161 rfl rfl (by first | decide | omega) (by first | decide | omega)) rfl rfl rfl ?_
  refine doG_v (opV_load1 4 ty2 rfl rfl rfl) rfl rfl rfl ?_
  refine doG_vg (F := vI) (opV_call en170 rfl (fun w _ => aCeil _ _ (by first | omega | assumption | (unfold In64; omega) | decide) (by first | omega | assumption | (unfold In64; omega) | decide) w)) rfl rfl rfl ?_; intro r20 hr20
  have qr20 := ceil_nonneg_of hr20 (by omega) (by omega)
  refine doG_v (opV_indexAddr ar161 rfl rfl (by first | decide | omega) (by first | decide | omega)) rfl rfl rfl ?_
  refine doG_v (opV_load1 3 ty2 rfl rfl rfl) rfl rfl rfl ?_
  refine doG_v (opV_quo rfl rfl (by first | decide | omega) (by first | exact (congrArg _ (tdiv_nonneg (by omega) (by omega))).trans (i64_in ⟨by omega, by omega⟩) | rfl)) rfl rfl rfl ?_
  refine doG_v (opV_indexAddr ar161 rfl rfl (by first | decide | omega) (by first | decide | omega)) rfl rfl rfl ?_
  refine doG_v (opV_load1 4 ty2 rfl rfl rfl) rfl rfl rfl ?_
  refine doG_vg (F := vI) (opV_call en170 rfl (fun w _ => aCeil _ _ (by first | omega | assumption | (unfold In64; omega) | decide) (by first | omega | assumption | (unfold In64; omega) | decide) w)) rfl rfl rfl ?_; intro r26 hr26
  have qr26 := ceil_nonneg_of hr26 (by omega) (by omega)
  refine doG_bslice sl95 ze2 rfl rfl rfl rfl rfl rfl rfl rfl rfl ?_
  refine doG_callG (F := vI) 27 en169 rfl (fun u => rfl) (fun u w _ hT => (by obtain ⟨bb, rfl, _, _, hb⟩ := hT; exact alt6 bb _ _ _ _ _ _ (by omega) (by omega) (by omega) (by omega) (by omega) (by omega) w hb)) (fun u => rfl) (by decide) rfl ?_; intro r28 hr28
  refine doG_nil ?_
  refine tail_ghost ?_; intro u27
  refine tail_nil ?_
  refine doL_v (opV_assign rfl) rfl rfl rfl ?_
  refine doL_nil ?_
  refine post_then ?_
  refine doC_seq ?_
  refine doC_drawn 14 mo (by kernel_rfl) ?_
  simp only [List.take_succ_cons, List.take_zero, List.drop_succ_cons, List.drop_zero]
  refine doG_v (opV_indexAddr ar161 rfl rfl (by first | decide | omega) (by first | decide | omega)) rfl rfl rfl ?_
  refine doG_v (opV_load1 3 ty2 rfl rfl rfl) rfl rfl rfl ?_
  refine doG_v (opV_quo rfl rfl (by first | decide | omega) (by first | exact (congrArg _ (tdiv_nonneg (by omega) (by omega))).trans (i64_in ⟨by omega, by omega⟩) | rfl)) rfl rfl rfl ?_
  refine doG_v (opV_indexAddr ar161 rfl rfl (by first | decide | omega) (by first | decide | omega)) rfl rfl rfl ?_
  refine doG_v (opV_load1 4 ty2 rfl rfl rfl) rfl rfl rfl ?_
  refine doG_vg (F := vI) (opV_call en170 rfl (fun w _ => aCeil _ _ (by first | omega | assumption | (unfold In64; omega) | decide) (by first | omega | assumption | (unfold In64; omega) | decide) w)) rfl rfl rfl ?_; intro r34 hr34
  have qr34 := ceil_nonneg_of hr34 (by omega) (by omega)
  refine doG_v (opV_indexAddr ar161 rfl rfl (by first | decide | omega) (by first | decide | omega)) rfl rfl rfl ?_
  refine doG_v (opV_load1 3 ty2 rfl rfl rfl) rfl rfl rfl ?_
  refine doG_v (opV_quo rfl rfl (by first | decide | omega) (by first | exact (congrArg _ (tdiv_nonneg (by omega) (by omega))).trans (i64_in ⟨by omega, by omega⟩) | rfl)) rfl rfl rfl ?_
  refine doG_v (opV_indexAddr ar161 rfl rfl (by first | decide | omega) (by first | decide | omega)) rfl rfl rfl ?_
  refine doG_v (opV_load1 4 ty2 rfl rfl rfl) rfl rfl rfl ?_
  refine doG_vg (F := vI) (opV_call en170 rfl (fun w _ => aCeil _ _ (by first | omega | assumption | (unfold In64; omega) | decide) (by first | omega | assumption | (unfold In64; omega) | decide) w)) rfl rfl rfl ?_; intro r40 hr40
  have qr40 := ceil_nonneg_of hr40 (by omega) (by omega)
  refine doG_bslice sl95 ze2 rfl rfl rfl rfl rfl rfl rfl rfl rfl ?_
  refine doG_callG (F := vI) 41 en169 rfl (fun u => rfl) (fun u w _ hT => (by obtain ⟨bb, rfl, _, _, hb⟩ := hT; exact alt5 bb _ _ _ _ _ (by omega) (by omega) (by omega) (by omega) (by omega) w hb)) (fun u => rfl) (by decide) rfl ?_; intro r42 hr42
  refine doG_nil ?_
  refine tail_ghost ?_; intro u41
  refine tail_nil ?_
  refine doL_v (opV_assign rfl) rfl rfl rfl ?_
  refine doL_nil ?_
  refine post_then ?_
  refine doC_seq ?_
  refine doC_region ?_
  refine doL_v (opV_move rfl) rfl rfl rfl ?_
  refine doL_v (opV_move rfl) rfl rfl rfl ?_
  refine doL_vg (F := iv) (opV_call en171 rfl (fun w _ => aEnc _ _ (by unfold In64; omega) w)) rfl rfl rfl ?_; intro r45 hr45
  refine doL_store 2 ty23 rfl rfl rfl rfl rfl rfl rfl rfl ?_
  refine doL_nil ?_
  refine post_then ?_
  refine doC_ret ?_
  refine post_rets (rs := [.cell 2 23]) rfl (resC (resIs_cell 2 rfl rfl ty23 rfl) (resN)) (congrArg (iv) (?_ : ⟨_, _⟩ = cosineI x))
  subst_vars; rfl
theorem aFirst (r : Int) (h : 0 ≤ r ∧ r ≤ 16384) (w : World) : Calls Try.prog 145 [.int .i64 r].toArray w (Rets (iv (firstI r)) (w)) := by
  refine calls_of_doC (n := 10) Try.func145 rfl rfl rfl ?_
  refine doC_seq ?_
  refine doC_region ?_
  refine doL_alloc 2 ze23 rfl rfl rfl ?_; intro b2
  refine doL_nil ?_
  refine post_then ?_
  refine doC_seq ?_
  refine doC_seq ?_
  refine doC_region ?_
  refine doL_v (opV_move rfl) rfl rfl rfl ?_
  refine doL_v (opV_leq rfl rfl) rfl rfl rfl ?_
  refine doL_nil ?_
  refine post_then ?_
  refine doC_cond rfl (fun hc4 => ?_) (fun hc4 => ?_)
  ·
    have h2 := of_decide_eq_true hc4
    refine doC_seq ?_
    refine doC_region ?_
    refine doL_v (opV_move rfl) rfl rfl rfl ?_
    refine doL_vg (F := iv) (opV_call en162 rfl (fun w _ => aSine _ (by first | omega | assumption | (unfold In64; omega) | decide) w)) rfl rfl rfl ?_; intro r6 hr6
    refine doL_store 2 ty23 rfl rfl rfl rfl rfl rfl rfl rfl ?_
    refine doL_nil ?_
    refine post_then ?_
    refine doC_ret ?_
    refine post_then_ret ?_
    refine post_rets (rs := [.cell 2 23]) rfl (resC (resIs_cell 2 rfl rfl ty23 rfl) (resN)) (congrArg (iv) (?_ : ⟨_, _⟩ = firstI r))
    subst_vars; unfold firstI; rw [hc4]; rfl
  ·
    have h2 := of_decide_eq_false hc4
    refine doC_skip ?_
    refine post_then ?_
    refine doC_seq ?_
    refine doC_region ?_
    refine doL_v (opV_move rfl) rfl rfl rfl ?_
    refine doL_v (opV_sub rfl rfl (by first | exact i64_in ⟨by omega, by omega⟩ | rfl)) rfl rfl rfl ?_
    refine doL_vg (F := iv) (opV_call en163 rfl (fun w _ => aCosine _ (by first | omega | assumption | (unfold In64; omega) | decide) w)) rfl rfl rfl ?_; intro r9 hr9
    refine doL_store 2 ty23 rfl rfl rfl rfl rfl rfl rfl rfl ?_
    refine doL_nil ?_
    refine post_then ?_
    refine doC_ret ?_
    refine post_rets (rs := [.cell 2 23]) rfl (resC (resIs_cell 2 rfl rfl ty23 rfl) (resN)) (congrArg (iv) (?_ : ⟨_, _⟩ = firstI r))
    subst_vars; unfold firstI; rw [hc4]; rfl
theorem aSin (a : Int) (w : World) : Calls Try.prog 115 [.int .i64 a].toArray w (Rets (iv (sinI a)) (w)) := by
  refine calls_of_doC (n := 29) Try.func115 rfl rfl rfl ?_
  refine doC_seq ?_
  refine doC_region ?_
  refine doL_alloc 2 ze23 rfl rfl rfl ?_; intro b2
  refine doL_nil ?_
  refine post_then ?_
  refine doC_seq ?_
  refine doC_region ?_
  refine doL_v (opV_move rfl) rfl rfl rfl ?_
  refine doL_vg (F := vI) (opV_call en144 rfl (fun w _ => aMod _  w)) rfl rfl rfl ?_; intro r6 hr6
  have qr6 : 0 ≤ r6 ∧ r6 < 65536 := by omega
  refine doL_v (opV_assign rfl) rfl rfl rfl ?_
  refine doL_nil ?_
  refine post_then ?_
  refine doC_seq ?_
  refine doC_region ?_
  refine doL_v (opV_move rfl) rfl rfl rfl ?_
  refine doL_v (opV_rem rfl rfl (by first | decide | omega) (by first | exact tmod_nonneg (by omega) (by omega) | rfl)) rfl rfl rfl ?_
  refine doL_v (opV_assign rfl) rfl rfl rfl ?_
  refine doL_nil ?_
  refine post_then ?_
  refine doC_seq ?_
  refine doC_region ?_
  refine doL_v (opV_move rfl) rfl rfl rfl ?_
  refine doL_v (opV_quo rfl rfl (by first | decide | omega) (by first | exact (congrArg _ (tdiv_nonneg (by omega) (by omega))).trans (i64_in ⟨by omega, by omega⟩) | rfl)) rfl rfl rfl ?_
  refine doL_nil ?_
  refine post_then ?_
  refine doC_block ?_
  refine doC_seq ?_
  refine doC_region ?_
  refine doL_v (opV_eql rfl rfl) rfl rfl rfl ?_
  refine doL_v (opV_assign rfl) rfl rfl rfl ?_
  refine doL_nil ?_
  refine post_then ?_
  refine doC_cond rfl (fun hc15 => ?_) (fun hc15 => ?_)
  ·
    refine doC_seq ?_
    refine doC_region ?_
    refine doL_v (opV_move rfl) rfl rfl rfl ?_
    refine doL_vg (F := iv) (opV_call en145 rfl (fun w _ => aFirst _ (by first | omega | assumption | (unfold In64; omega) | decide) w)) rfl rfl rfl ?_; intro r18 hr18
    refine doL_store 2 ty23 rfl rfl rfl rfl rfl rfl rfl rfl ?_
    refine doL_nil ?_
    refine post_then ?_
    refine doC_ret ?_
    refine post_block_ret ?_
    refine post_rets (rs := [.cell 2 23]) rfl (resC (resIs_cell 2 rfl rfl ty23 rfl) (resN)) (congrArg (iv) (?_ : ⟨_, _⟩ = sinI a))
    subst_vars; first | (simp_all [sinI, sinM]; done) | (simp_all [sinI, sinM] <;> omega) | grind [sinI, sinM]
  ·
    refine doC_seq ?_
    refine doC_region ?_
    refine doL_v (opV_eql rfl rfl) rfl rfl rfl ?_
    refine doL_v (opV_assign rfl) rfl rfl rfl ?_
    refine doL_nil ?_
    refine post_then ?_
    refine doC_cond rfl (fun hc19 => ?_) (fun hc19 => ?_)
    ·
      refine doC_seq ?_
      refine doC_region ?_
      refine doL_v (opV_move rfl) rfl rfl rfl ?_
      refine doL_v (opV_sub rfl rfl (by first | exact i64_in ⟨by omega, by omega⟩ | rfl)) rfl rfl rfl ?_
      refine doL_vg (F := iv) (opV_call en145 rfl (fun w _ => aFirst _ (by first | omega | assumption | (unfold In64; omega) | decide) w)) rfl rfl rfl ?_; intro r23 hr23
      refine doL_store 2 ty23 rfl rfl rfl rfl rfl rfl rfl rfl ?_
      refine doL_nil ?_
      refine post_then ?_
      refine doC_ret ?_
      refine post_block_ret ?_
      refine post_rets (rs := [.cell 2 23]) rfl (resC (resIs_cell 2 rfl rfl ty23 rfl) (resN)) (congrArg (iv) (?_ : ⟨_, _⟩ = sinI a))
      subst_vars; first | (simp_all [sinI, sinM]; done) | (simp_all [sinI, sinM] <;> omega) | grind [sinI, sinM]
    ·
      refine doC_seq ?_
      refine doC_region ?_
      refine doL_v (opV_eql rfl rfl) rfl rfl rfl ?_
      refine doL_v (opV_assign rfl) rfl rfl rfl ?_
      refine doL_nil ?_
      refine post_then ?_
      refine doC_cond rfl (fun hc24 => ?_) (fun hc24 => ?_)
      ·
        refine doC_seq ?_
        refine doC_region ?_
        refine doL_v (opV_move rfl) rfl rfl rfl ?_
        refine doL_vg (F := iv) (opV_call en145 rfl (fun w _ => aFirst _ (by first | omega | assumption | (unfold In64; omega) | decide) w)) rfl rfl rfl ?_; intro r27 hr27
        refine doL_vg (F := iv) (opV_call en78 rfl (fun w _ => iNeg _ _  w)) rfl rfl rfl ?_; intro r28 hr28
        refine doL_store 2 ty23 rfl rfl rfl rfl rfl rfl rfl rfl ?_
        refine doL_nil ?_
        refine post_then ?_
        refine doC_ret ?_
        refine post_block_ret ?_
        refine post_rets (rs := [.cell 2 23]) rfl (resC (resIs_cell 2 rfl rfl ty23 rfl) (resN)) (congrArg (iv) (?_ : ⟨_, _⟩ = sinI a))
        subst_vars; first | (simp_all [sinI, sinM]; done) | (simp_all [sinI, sinM] <;> omega) | grind [sinI, sinM]
      ·
        refine doC_seq ?_
        refine doC_region ?_
        refine doL_v (opV_move rfl) rfl rfl rfl ?_
        refine doL_v (opV_sub rfl rfl (by first | exact i64_in ⟨by omega, by omega⟩ | rfl)) rfl rfl rfl ?_
        refine doL_vg (F := iv) (opV_call en145 rfl (fun w _ => aFirst _ (by first | omega | assumption | (unfold In64; omega) | decide) w)) rfl rfl rfl ?_; intro r13 hr13
        refine doL_vg (F := iv) (opV_call en78 rfl (fun w _ => iNeg _ _  w)) rfl rfl rfl ?_; intro r14 hr14
        refine doL_store 2 ty23 rfl rfl rfl rfl rfl rfl rfl rfl ?_
        refine doL_nil ?_
        refine post_then ?_
        refine doC_ret ?_
        refine post_block_ret ?_
        refine post_rets (rs := [.cell 2 23]) rfl (resC (resIs_cell 2 rfl rfl ty23 rfl) (resN)) (congrArg (iv) (?_ : ⟨_, _⟩ = sinI a))
        subst_vars; first | (simp_all [sinI, sinM]; done) | (simp_all [sinI, sinM] <;> omega) | grind [sinI, sinM]
theorem aCos (a : Int) (w : World) : Calls Try.prog 114 [.int .i64 a].toArray w (Rets (iv (cosI a)) (w)) := by
  refine calls_of_doC (n := 7) Try.func114 rfl rfl rfl ?_
  refine doC_seq ?_
  refine doC_region ?_
  refine doL_alloc 2 ze23 rfl rfl rfl ?_; intro b2
  refine doL_nil ?_
  refine post_then ?_
  refine doC_seq ?_
  refine doC_region ?_
  refine doL_v (opV_move rfl) rfl rfl rfl ?_
  refine doL_vg (F := vI) (opV_call en144 rfl (fun w _ => aMod _  w)) rfl rfl rfl ?_; intro r4 hr4
  have qr4 : 0 ≤ r4 ∧ r4 < 65536 := by omega
  refine doL_v (opV_add rfl rfl (by first | exact i64_in ⟨by omega, by omega⟩ | rfl)) rfl rfl rfl ?_
  refine doL_vg (F := iv) (opV_call en115 rfl (fun w _ => aSin _  w)) rfl rfl rfl ?_; intro r6 hr6
  refine doL_store 2 ty23 rfl rfl rfl rfl rfl rfl rfl rfl ?_
  refine doL_nil ?_
  refine post_then ?_
  refine doC_ret ?_
  refine post_rets (rs := [.cell 2 23]) rfl (resC (resIs_cell 2 rfl rfl ty23 rfl) (resN)) (congrArg (iv) (?_ : ⟨_, _⟩ = cosI a))
  subst_vars; first | (simp_all [cosI]; done) | (simp_all [cosI] <;> omega) | grind [cosI]
theorem aMeets (a0 a1 : Int) (c : Int) (hv : Iv.valid (⟨a0, a1⟩ : Iv) = true) (hc : 0 ≤ c ∧ c < 65536) (w : World) : Calls Try.prog 143 [.agg #[.int .i64 a0, .int .i64 a1], .int .i64 c].toArray w (Rets (vB (meetsI (⟨a0, a1⟩ : Iv) c)) (w)) := by
  refine calls_of_doC (n := 15) Try.func143 rfl rfl rfl ?_
  refine doC_seq ?_
  have hv2 := valid_mk hv
  refine doC_region ?_
  refine doL_box 2 rfl rfl rfl rfl ?_; intro b2
  refine doL_v (opV_assign rfl) rfl rfl rfl ?_
  refine doL_nil ?_
  refine post_then ?_
  refine doC_seq ?_
  refine doC_drawn 10 mo (by kernel_rfl) ?_
  simp only [List.take_succ_cons, List.take_zero, List.drop_succ_cons, List.drop_zero]
  refine doG_v (opV_loadA 2 ty23 rfl rfl rfl) rfl rfl rfl ?_
  refine doG_v (opV_fieldAddr fa23_0 rfl) rfl rfl rfl ?_
  refine doG_v (opV_load1 2 ty2 rfl rfl rfl) rfl rfl rfl ?_
  refine doG_v (opV_move rfl) rfl rfl rfl ?_
  refine doG_v (opV_fieldAddr fa23_0 rfl) rfl rfl rfl ?_
  refine doG_v (opV_load1 2 ty2 rfl rfl rfl) rfl rfl rfl ?_
  refine doG_v (opV_sub rfl rfl (by first | exact i64_in ⟨by omega, by omega⟩ | rfl)) rfl rfl rfl ?_
  refine doG_vg (F := vI) (opV_call en144 rfl (fun w _ => aMod _  w)) rfl rfl rfl ?_; intro r12 hr12
  have qr12 : 0 ≤ r12 ∧ r12 < 65536 := by omega
  refine doG_v (opV_add rfl rfl (by first | exact i64_in ⟨by omega, by omega⟩ | rfl)) rfl rfl rfl ?_
  refine doG_vg (F := vB) (opV_call en161 rfl (fun w _ => iHas _ _ _  w)) rfl rfl rfl ?_; intro r14 hr14
  refine doG_nil ?_
  refine tail_nil ?_
  refine doL_v (opV_assign rfl) rfl rfl rfl ?_
  refine doL_nil ?_
  refine post_then ?_
  refine doC_ret ?_
  refine post_rets (rs := [.tmp 4]) rfl (resC (resIs_tmp rfl) (resN)) (congrArg (vB) (?_ : _ = meetsI (⟨a0, a1⟩ : Iv) c))
  subst_vars; simp only [Iv.has, meetsI, hv, Bool.true_and]; rw [decide_eq_true (by omega), Bool.true_and]
theorem aOver (a0 a1 : Int) (top : Int) (bot : Int) (fv : Nat) (φ : Int → Iv) (hen : Enters Try.prog fv) (hφ : ∀ (a : Int) (w : World), Calls Try.prog fv [.int .i64 a].toArray w (Rets (iv (φ a)) w)) (ht : 0 ≤ top ∧ top < 65536) (hb : 0 ≤ bot ∧ bot < 65536) (w : World) : Calls Try.prog 113 [.agg #[.int .i64 a0, .int .i64 a1], .func (.func fv) #[] #[], .int .i64 top, .int .i64 bot].toArray w (Rets (iv (overI (⟨a0, a1⟩ : Iv) (φ a0) (φ a1) top bot)) (w)) := by
  refine calls_of_doC (n := 40) Try.func113 rfl rfl rfl ?_
  refine doC_seq ?_
  refine doC_region ?_
  refine doL_box 4 rfl rfl rfl rfl ?_; intro b4
  refine doL_alloc 8 ze23 rfl rfl rfl ?_; intro b8
  refine doL_nil ?_
  refine post_then ?_
  refine doC_seq ?_
  refine doC_seq ?_
  refine doC_region ?_
  refine doL_v (opV_loadA 4 ty23 rfl rfl rfl) rfl rfl rfl ?_
  refine doL_vg (F := vB) (opV_call en75 rfl (fun w _ => iValid _ _  w)) rfl rfl rfl ?_; intro r11 hr11
  refine doL_v (opV_not rfl) rfl rfl rfl ?_
  refine doL_nil ?_
  refine post_then ?_
  refine doC_cond rfl (fun hc12 => ?_) (fun hc12 => ?_)
  ·
    refine doC_seq ?_
    refine doC_region ?_
    refine doL_v (opV_build la23 rfl rfl) rfl rfl rfl ?_
    refine doL_store 8 ty23 rfl rfl rfl rfl rfl rfl rfl rfl ?_
    refine doL_nil ?_
    refine post_then ?_
    refine doC_ret ?_
    refine post_then_ret ?_
    refine post_rets (rs := [.cell 8 23]) rfl (resC (resIs_cell 8 rfl rfl ty23 rfl) (resN)) (congrArg (iv) (?_ : ⟨_, _⟩ = overI (⟨a0, a1⟩ : Iv) (φ a0) (φ a1) top bot))
    subst_vars; first | (simp_all [overI, Iv.width]; done) | (simp_all [overI, Iv.width]; rw [show decide (65536 ≤ a1 - a0) = false by simpa using hc16]; rfl)
  ·
    refine doC_skip ?_
    refine post_then ?_
    refine doC_seq ?_
    refine doC_seq ?_
    have hv : Iv.valid ⟨a0, a1⟩ = true := hr11.symm.trans (by simpa using hc12)
    refine doC_region ?_
    refine doL_v (opV_loadA 4 ty23 rfl rfl rfl) rfl rfl rfl ?_
    refine doL_vg (F := vI) (opV_call en141 rfl (fun w _ => iWidth _ _  w)) rfl rfl rfl ?_; intro r15 hr15
    refine doL_v (opV_geq rfl rfl) rfl rfl rfl ?_
    refine doL_nil ?_
    refine post_then ?_
    refine doC_cond rfl (fun hc16 => ?_) (fun hc16 => ?_)
    ·
      refine doC_seq ?_
      refine doC_region ?_
      refine doL_v (opV_build la23 rfl rfl) rfl rfl rfl ?_
      refine doL_store 8 ty23 rfl rfl rfl rfl rfl rfl rfl rfl ?_
      refine doL_nil ?_
      refine post_then ?_
      refine doC_ret ?_
      refine post_then_ret ?_
      refine post_rets (rs := [.cell 8 23]) rfl (resC (resIs_cell 8 rfl rfl ty23 rfl) (resN)) (congrArg (iv) (?_ : ⟨_, _⟩ = overI (⟨a0, a1⟩ : Iv) (φ a0) (φ a1) top bot))
      subst_vars; first | (simp_all [overI, Iv.width]; done) | (simp_all [overI, Iv.width]; rw [show decide (65536 ≤ a1 - a0) = false by simpa using hc16]; rfl)
    ·
      refine doC_skip ?_
      refine post_then ?_
      refine doC_seq ?_
      refine doC_drawn 10 mo (by kernel_rfl) ?_
      simp only [List.take_succ_cons, List.take_zero, List.drop_succ_cons, List.drop_zero]
      refine doG_v (opV_move rfl) rfl rfl rfl ?_
      refine doG_v (opV_fieldAddr fa23_0 rfl) rfl rfl rfl ?_
      refine doG_v (opV_load1 4 ty2 rfl rfl rfl) rfl rfl rfl ?_
      refine doG_vg (F := iv) (opV_callV hen rfl rfl rfl (fun w _ => hφ _ w)) rfl rfl rfl ?_; intro r21 hr21
      refine doG_v (opV_move rfl) rfl rfl rfl ?_
      refine doG_v (opV_fieldAddr fa23_1 rfl) rfl rfl rfl ?_
      refine doG_v (opV_load1 4 ty2 rfl rfl rfl) rfl rfl rfl ?_
      refine doG_vg (F := iv) (opV_callV hen rfl rfl rfl (fun w _ => hφ _ w)) rfl rfl rfl ?_; intro r25 hr25
      refine doG_vg (F := iv) (opV_call en142 rfl (fun w _ => iHull _ _ _ _  w)) rfl rfl rfl ?_; intro r26 hr26
      refine doG_alloc ze23 rfl rfl rfl rfl ?_
      refine doG_nil ?_
      refine tail_alloc 9 rfl ?_; intro b9_2
      refine tail_nil ?_
      refine doL_store 9 ty23 rfl rfl rfl rfl rfl rfl rfl rfl ?_
      refine doL_nil ?_
      refine post_then ?_
      refine doC_seq ?_
      refine doC_seq ?_
      refine doC_region ?_
      refine doL_v (opV_loadA 4 ty23 rfl rfl rfl) rfl rfl rfl ?_
      refine doL_v (opV_move rfl) rfl rfl rfl ?_
      refine doL_vg (F := vB) (opV_call en143 rfl (fun w _ => aMeets _ _ _ hv (by omega) w)) rfl rfl rfl ?_; intro r29 hr29
      refine doL_nil ?_
      refine post_then ?_
      refine doC_cond rfl (fun hc29 => ?_) (fun hc29 => ?_)
      ·
        refine doC_drawn 3 mo (by kernel_rfl) ?_
        simp only [List.take_succ_cons, List.take_zero, List.drop_succ_cons, List.drop_zero]
        refine doG_v (opV_loadA 9 ty23 rfl rfl rfl) rfl rfl rfl ?_
        refine doG_vg (F := iv) (opV_call en79 rfl (fun w _ => iOf _  w)) rfl rfl rfl ?_; intro r31 hr31
        refine doG_vg (F := iv) (opV_call en142 rfl (fun w _ => iHull _ _ _ _  w)) rfl rfl rfl ?_; intro r32 hr32
        refine doG_nil ?_
        refine tail_nil ?_
        refine doL_store 9 ty23 rfl rfl rfl rfl rfl rfl rfl rfl ?_
        refine doL_nil ?_
        refine post_then ?_
        refine doC_seq ?_
        refine doC_seq ?_
        refine doC_region ?_
        refine doL_v (opV_loadA 4 ty23 rfl rfl rfl) rfl rfl rfl ?_
        refine doL_v (opV_move rfl) rfl rfl rfl ?_
        refine doL_vg (F := vB) (opV_call en143 rfl (fun w _ => aMeets _ _ _ hv (by omega) w)) rfl rfl rfl ?_; intro r35 hr35
        refine doL_nil ?_
        refine post_then ?_
        refine doC_cond rfl (fun hc35 => ?_) (fun hc35 => ?_)
        ·
          refine doC_drawn 3 mo (by kernel_rfl) ?_
          simp only [List.take_succ_cons, List.take_zero, List.drop_succ_cons, List.drop_zero]
          refine doG_v (opV_loadA 9 ty23 rfl rfl rfl) rfl rfl rfl ?_
          refine doG_vg (F := iv) (opV_call en79 rfl (fun w _ => iOf _  w)) rfl rfl rfl ?_; intro r37 hr37
          refine doG_vg (F := iv) (opV_call en142 rfl (fun w _ => iHull _ _ _ _  w)) rfl rfl rfl ?_; intro r38 hr38
          refine doG_nil ?_
          refine tail_nil ?_
          refine doL_store 9 ty23 rfl rfl rfl rfl rfl rfl rfl rfl ?_
          refine doL_nil ?_
          refine post_then ?_
          refine doC_seq ?_
          refine doC_region ?_
          refine doL_v (opV_loadA 9 ty23 rfl rfl rfl) rfl rfl rfl ?_
          refine doL_store 8 ty23 rfl rfl rfl rfl rfl rfl rfl rfl ?_
          refine doL_nil ?_
          refine post_then ?_
          refine doC_ret ?_
          refine post_rets (rs := [.cell 8 23]) rfl (resC (resIs_cell 8 rfl rfl ty23 rfl) (resN)) (congrArg (iv) (?_ : ⟨_, _⟩ = overI (⟨a0, a1⟩ : Iv) (φ a0) (φ a1) top bot))
          subst_vars; first | (simp_all [overI, Iv.width]; done) | (simp_all [overI, Iv.width]; rw [show decide (65536 ≤ a1 - a0) = false by simpa using hc16]; rfl)
        ·
          refine doC_skip ?_
          refine post_then ?_
          refine doC_seq ?_
          refine doC_region ?_
          refine doL_v (opV_loadA 9 ty23 rfl rfl rfl) rfl rfl rfl ?_
          refine doL_store 8 ty23 rfl rfl rfl rfl rfl rfl rfl rfl ?_
          refine doL_nil ?_
          refine post_then ?_
          refine doC_ret ?_
          refine post_rets (rs := [.cell 8 23]) rfl (resC (resIs_cell 8 rfl rfl ty23 rfl) (resN)) (congrArg (iv) (?_ : ⟨_, _⟩ = overI (⟨a0, a1⟩ : Iv) (φ a0) (φ a1) top bot))
          subst_vars; first | (simp_all [overI, Iv.width]; done) | (simp_all [overI, Iv.width]; rw [show decide (65536 ≤ a1 - a0) = false by simpa using hc16]; rfl)
      ·
        refine doC_skip ?_
        refine post_then ?_
        refine doC_seq ?_
        refine doC_seq ?_
        refine doC_region ?_
        refine doL_v (opV_loadA 4 ty23 rfl rfl rfl) rfl rfl rfl ?_
        refine doL_v (opV_move rfl) rfl rfl rfl ?_
        refine doL_vg (F := vB) (opV_call en143 rfl (fun w _ => aMeets _ _ _ hv (by omega) w)) rfl rfl rfl ?_; intro r35 hr35
        refine doL_nil ?_
        refine post_then ?_
        refine doC_cond rfl (fun hc35 => ?_) (fun hc35 => ?_)
        ·
          refine doC_drawn 3 mo (by kernel_rfl) ?_
          simp only [List.take_succ_cons, List.take_zero, List.drop_succ_cons, List.drop_zero]
          refine doG_v (opV_loadA 9 ty23 rfl rfl rfl) rfl rfl rfl ?_
          refine doG_vg (F := iv) (opV_call en79 rfl (fun w _ => iOf _  w)) rfl rfl rfl ?_; intro r37 hr37
          refine doG_vg (F := iv) (opV_call en142 rfl (fun w _ => iHull _ _ _ _  w)) rfl rfl rfl ?_; intro r38 hr38
          refine doG_nil ?_
          refine tail_nil ?_
          refine doL_store 9 ty23 rfl rfl rfl rfl rfl rfl rfl rfl ?_
          refine doL_nil ?_
          refine post_then ?_
          refine doC_seq ?_
          refine doC_region ?_
          refine doL_v (opV_loadA 9 ty23 rfl rfl rfl) rfl rfl rfl ?_
          refine doL_store 8 ty23 rfl rfl rfl rfl rfl rfl rfl rfl ?_
          refine doL_nil ?_
          refine post_then ?_
          refine doC_ret ?_
          refine post_rets (rs := [.cell 8 23]) rfl (resC (resIs_cell 8 rfl rfl ty23 rfl) (resN)) (congrArg (iv) (?_ : ⟨_, _⟩ = overI (⟨a0, a1⟩ : Iv) (φ a0) (φ a1) top bot))
          subst_vars; first | (simp_all [overI, Iv.width]; done) | (simp_all [overI, Iv.width]; rw [show decide (65536 ≤ a1 - a0) = false by simpa using hc16]; rfl)
        ·
          refine doC_skip ?_
          refine post_then ?_
          refine doC_seq ?_
          refine doC_region ?_
          refine doL_v (opV_loadA 9 ty23 rfl rfl rfl) rfl rfl rfl ?_
          refine doL_store 8 ty23 rfl rfl rfl rfl rfl rfl rfl rfl ?_
          refine doL_nil ?_
          refine post_then ?_
          refine doC_ret ?_
          refine post_rets (rs := [.cell 8 23]) rfl (resC (resIs_cell 8 rfl rfl ty23 rfl) (resN)) (congrArg (iv) (?_ : ⟨_, _⟩ = overI (⟨a0, a1⟩ : Iv) (φ a0) (φ a1) top bot))
          subst_vars; first | (simp_all [overI, Iv.width]; done) | (simp_all [overI, Iv.width]; rw [show decide (65536 ≤ a1 - a0) = false by simpa using hc16]; rfl)
theorem aSinOver (a0 a1 : Int) (w : World) : Calls Try.prog 77 [.agg #[.int .i64 a0, .int .i64 a1]].toArray w (Rets (iv (sinOverI (⟨a0, a1⟩ : Iv))) (w)) := by
  refine calls_of_doC (n := 5) Try.func77 rfl rfl rfl ?_
  refine doC_seq ?_
  refine doC_region ?_
  refine doL_box 1 rfl rfl rfl rfl ?_; intro b1
  refine doL_alloc 2 ze23 rfl rfl rfl ?_; intro b2
  refine doL_nil ?_
  refine post_then ?_
  refine doC_seq ?_
  refine doC_region ?_
  refine doL_v (opV_loadA 1 ty23 rfl rfl rfl) rfl rfl rfl ?_
  refine doL_vg (F := iv) (opV_call en113 rfl (fun w _ => aOver _ _ _ _ 115 sinI en115 aSin (by decide) (by decide) w)) rfl rfl rfl ?_; intro r4 hr4
  refine doL_store 2 ty23 rfl rfl rfl rfl rfl rfl rfl rfl ?_
  refine doL_nil ?_
  refine post_then ?_
  refine doC_ret ?_
  refine post_rets (rs := [.cell 2 23]) rfl (resC (resIs_cell 2 rfl rfl ty23 rfl) (resN)) (congrArg (iv) (?_ : ⟨_, _⟩ = sinOverI (⟨a0, a1⟩ : Iv)))
  subst_vars; first | (simp_all [sinOverI]; done) | (simp_all [sinOverI] <;> omega) | grind [sinOverI]
theorem aCosOver (a0 a1 : Int) (w : World) : Calls Try.prog 76 [.agg #[.int .i64 a0, .int .i64 a1]].toArray w (Rets (iv (cosOverI (⟨a0, a1⟩ : Iv))) (w)) := by
  refine calls_of_doC (n := 5) Try.func76 rfl rfl rfl ?_
  refine doC_seq ?_
  refine doC_region ?_
  refine doL_box 1 rfl rfl rfl rfl ?_; intro b1
  refine doL_alloc 2 ze23 rfl rfl rfl ?_; intro b2
  refine doL_nil ?_
  refine post_then ?_
  refine doC_seq ?_
  refine doC_region ?_
  refine doL_v (opV_loadA 1 ty23 rfl rfl rfl) rfl rfl rfl ?_
  refine doL_vg (F := iv) (opV_call en113 rfl (fun w _ => aOver _ _ _ _ 114 cosI en114 aCos (by decide) (by decide) w)) rfl rfl rfl ?_; intro r4 hr4
  refine doL_store 2 ty23 rfl rfl rfl rfl rfl rfl rfl rfl ?_
  refine doL_nil ?_
  refine post_then ?_
  refine doC_ret ?_
  refine post_rets (rs := [.cell 2 23]) rfl (resC (resIs_cell 2 rfl rfl ty23 rfl) (resN)) (congrArg (iv) (?_ : ⟨_, _⟩ = cosOverI (⟨a0, a1⟩ : Iv)))
  subst_vars; first | (simp_all [cosOverI]; done) | (simp_all [cosOverI] <;> omega) | grind [cosOverI]
theorem mRound (n : Int) (k : Int) (hk : 0 < k ∧ k ≤ 9223372036854775807) (w : World) : Calls Try.prog 22 [.int .i64 n, .int .i64 k].toArray w (Rets (vI (n % k)) (w)) := by
  refine calls_of_doC (n := 15) Try.func22 rfl rfl rfl ?_
  refine doC_seq ?_
  have h0 := Int.lt_tmod_of_pos n hk.1
  have h1 := Int.tmod_lt_of_pos n hk.1
  refine doC_region ?_
  refine doL_v (opV_assign rfl) rfl rfl rfl ?_
  refine doL_nil ?_
  refine post_then ?_
  refine doC_seq ?_
  refine doC_region ?_
  refine doL_v (opV_move rfl) rfl rfl rfl ?_
  refine doL_v (opV_move rfl) rfl rfl rfl ?_
  refine doL_v (opV_rem rfl rfl (by first | decide | omega) rfl) rfl rfl rfl ?_
  refine doL_v (opV_assign rfl) rfl rfl rfl ?_
  refine doL_nil ?_
  refine post_then ?_
  refine doC_seq ?_
  refine doC_seq ?_
  refine doC_region ?_
  refine doL_v (opV_move rfl) rfl rfl rfl ?_
  refine doL_v (opV_lss rfl rfl) rfl rfl rfl ?_
  refine doL_nil ?_
  refine post_then ?_
  refine doC_cond rfl (fun hc10 => ?_) (fun hc10 => ?_)
  ·
    have h2 := of_decide_eq_true hc10
    refine doC_region ?_
    refine doL_v (opV_move rfl) rfl rfl rfl ?_
    refine doL_v (opV_move rfl) rfl rfl rfl ?_
    refine doL_v (opV_add rfl rfl (by first | exact i64_in ⟨by omega, by omega⟩ | rfl)) rfl rfl rfl ?_
    refine doL_v (opV_assign rfl) rfl rfl rfl ?_
    refine doL_nil ?_
    refine post_then ?_
    refine doC_seq ?_
    refine doC_region ?_
    refine doL_v (opV_move rfl) rfl rfl rfl ?_
    refine doL_v (opV_assign rfl) rfl rfl rfl ?_
    refine doL_nil ?_
    refine post_then ?_
    refine doC_ret ?_
    refine post_rets (rs := [.tmp 4]) rfl (resC (resIs_tmp rfl) (resN)) (congrArg (vI) (?_ : _ = n % k))
    exact round_neg hk.1 h2
  ·
    have h2 := of_decide_eq_false hc10
    refine doC_skip ?_
    refine post_then ?_
    refine doC_seq ?_
    refine doC_region ?_
    refine doL_v (opV_move rfl) rfl rfl rfl ?_
    refine doL_v (opV_assign rfl) rfl rfl rfl ?_
    refine doL_nil ?_
    refine post_then ?_
    refine doC_ret ?_
    refine post_rets (rs := [.tmp 4]) rfl (resC (resIs_tmp rfl) (resN)) (congrArg (vI) (?_ : _ = n % k))
    exact round_pos hk.1 h2
end Go.Proofs.Ytonampcmhhhffaa
namespace Go.Proofs.Ytonampcmhhhffaa
open Go.Sx
theorem la105 : layoutOf Try.prog 105 = some ([.slice none 0 0, .int .i64 0], [(0, 1), (1, 1)]) := by kernel_rfl
theorem fa105_1 : fieldB Try.prog 105 1 1 = true := by kernel_rfl
theorem ty3 : tyB Try.prog 3 false 1 = true := by kernel_rfl
theorem fa105_0 : fieldB Try.prog 105 0 0 = true := by kernel_rfl
theorem ty31 : tyB Try.prog 31 false 1 = true := by kernel_rfl
theorem sl31 : slcB Try.prog 31 3 1 = true := by kernel_rfl
theorem en22 : Enters Try.prog 22 := enters_of Try.func22 (by kernel_rfl) (by kernel_rfl)
theorem en30 : Enters Try.prog 30 := enters_of Try.func30 (by kernel_rfl) (by kernel_rfl)
theorem src_inc {i : Nat} {L : List Int} (hl : L.length ≤ 9223372036854775807) (h : i < L.length) : IntKind.i64.wrap (((min i L.length : Nat) : Int) + 1) = ((min (i + 1) L.length : Nat) : Int) := by
  refine (i64_in ?_).trans ?_ <;> omega
theorem src_dec {i : Nat} {L : List Int} (hl : L.length ≤ 9223372036854775807) (h : i < L.length) : IntKind.i64.wrap (((min (i + 1) L.length : Nat) : Int) - 1) = (i : Int) := by
  refine (i64_in ?_).trans ?_ <;> omega
theorem src_out {w : World} {b i : Nat} {sl : Value} {L : List Int} (h : L.length ≤ i) : srcW w b sl L i = srcW w b sl L (i + 1) := by
  unfold srcW srcC
  rw [show min i L.length = min (i + 1) L.length by omega]
theorem src_outB {B : Base} {b i : Nat} {sl : Value} {L : List Int} (h : L.length ≤ i) : srcB B b sl L i = srcB B b sl L (i + 1) := by
  unfold srcB; rw [src_out h]
theorem srcR_out {i : Nat} {L : List Int} (k : Int) (h : L.length ≤ i) : (0 : Int) = srcR L i k := by
  unfold srcR
  simp [List.getD_eq_getElem?_getD, List.getElem?_eq_none h]
theorem mFrom0  (a : Option Addr) (cap : Nat) (L : List Int) (w : World) : Calls Try.prog 26 [.slice a L.length cap].toArray w (RetsT (NewT w (srcC (.slice a L.length cap) L 0) 105) w) := by
  refine calls_of_doC (n := 6) Try.func26 rfl rfl rfl ?_
  refine doC_seq ?_
  refine doC_region ?_
  refine doL_v (opV_assign rfl) rfl rfl rfl ?_
  refine doL_nil ?_
  refine post_then ?_
  refine doC_seq ?_
  refine doC_region ?_
  refine doL_v (opV_move rfl) rfl rfl rfl ?_
  refine doL_v (opV_build la105 rfl rfl) rfl rfl rfl ?_
  refine doL_box 5 rfl rfl rfl rfl ?_; intro b5
  refine doL_v (opV_assign rfl) rfl rfl rfl ?_
  refine doL_nil ?_
  refine post_then ?_
  refine doC_ret ?_
  refine post_ret (rs := [.tmp 2]) rfl (resC (resIs_tmp rfl) (resN)) rfl ?_
  intro w2 k
  rw [srcC_zero]
  exact ⟨_, rfl, k.grow, _, rfl, (k.at (i := 5) rfl).1, (k.at (i := 5) rfl).2⟩
theorem mFrom {sl : Value} {L : List Int} {m : Nat} (w : World) (h : IntsAt w m sl L) : Calls Try.prog 26 [sl].toArray w (RetsT (NewT w (srcC sl L 0) 105) w) := by
  obtain ⟨_, a, cap, rfl, _⟩ := h
  exact mFrom0 a cap L w
theorem srcNext {b : Nat} {sl : Value} {L : List Int} {i : Nat} (k : Int) (hk : 0 < k ∧ k ≤ 9223372036854775807) (w : World) (hs : Src w b sl L i) : Calls Try.prog 30 [.pointer (some ⟨b, 0, none⟩), .int .i64 k].toArray w (Rets (vI (srcR L i k)) (srcW w b sl L (i + 1))) := by
  refine calls_src (n := 35) hs Try.func30 rfl rfl rfl ?_
  refine doC_seq ?_
  obtain ⟨t0, hb⟩ := hs.blk
  obtain ⟨hlen, a, cap, rfl, hcell⟩ := hs.ints
  refine doC_region ?_
  refine doL_v (opV_assign rfl) rfl rfl rfl ?_
  refine doL_nil ?_
  refine post_then ?_
  refine doC_seq ?_
  refine doC_seq ?_
  refine doC_drawn 9 mo (by kernel_rfl) ?_
  simp only [List.take_succ_cons, List.take_zero, List.drop_succ_cons, List.drop_zero]
  refine doG_v (opV_move rfl) rfl rfl rfl ?_
  refine doG_v (opV_nilCheck rfl) rfl rfl rfl ?_
  refine doG_v (opV_fieldAddr fa105_1 rfl) rfl rfl rfl ?_
  refine doG_v (opV_load_base (B := ⟨w, []⟩) hb ty3 rfl rfl) rfl rfl rfl ?_
  refine doG_v (opV_move rfl) rfl rfl rfl ?_
  refine doG_v (opV_nilCheck rfl) rfl rfl rfl ?_
  refine doG_v (opV_fieldAddr fa105_0 rfl) rfl rfl rfl ?_
  refine doG_v (opV_load_base (B := ⟨w, []⟩) hb ty31 rfl rfl) rfl rfl rfl ?_
  refine doG_v (opV_len_slice sl31 rfl) rfl rfl rfl ?_
  refine doG_nil ?_
  refine tail_nil ?_
  refine doL_v (opV_geq rfl rfl) rfl rfl rfl ?_
  refine doL_nil ?_
  refine post_then ?_
  refine doC_cond rfl (fun hc14 => ?_) (fun hc14 => ?_)
  ·
    have h2 : L.length ≤ i := by have := of_decide_eq_true hc14; omega
    rw [src_outB h2]
    refine doC_seq ?_
    refine doC_region ?_
    refine doL_v (opV_assign rfl) rfl rfl rfl ?_
    refine doL_nil ?_
    refine post_then ?_
    refine doC_ret ?_
    refine post_then_ret ?_
    refine post_rets (rs := [.tmp 4]) rfl (resC (resIs_tmp rfl) (resN)) (congrArg (vI) (?_ : _ = srcR L i k))
    exact srcR_out k h2
  ·
    have h2 : i < L.length := by have := of_decide_eq_false hc14; omega
    obtain ⟨bb, off, rfl, hbb, hcc⟩ := hcell i h2
    have hlt := heap_lt hb
    refine doC_skip ?_
    refine post_then ?_
    refine doC_seq ?_
    refine doC_region ?_
    refine doL_v (opV_move rfl) rfl rfl rfl ?_
    refine doL_v (opV_nilCheck rfl) rfl rfl rfl ?_
    refine doL_v (opV_fieldAddr fa105_1 rfl) rfl rfl rfl ?_
    refine doL_v (opV_load_base (B := ⟨w, []⟩) hb ty3 rfl rfl) rfl rfl rfl ?_
    refine doL_v (opV_add rfl rfl (src_inc hlen h2)) rfl rfl rfl ?_
    refine doL_v (opV_nilCheck rfl) rfl rfl rfl ?_
    refine doL_v (opV_fieldAddr fa105_1 rfl) rfl rfl rfl ?_
    refine doL_store_base (B := ⟨w, []⟩) hb ty3 rfl rfl rfl rfl rfl rfl ?_
    refine doL_nil ?_
    refine post_then ?_
    refine doC_seq ?_
    refine doC_drawn 13 mo (by kernel_rfl) ?_
    simp only [List.take_succ_cons, List.take_zero, List.drop_succ_cons, List.drop_zero]
    refine doG_v (opV_move rfl) rfl rfl rfl ?_
    refine doG_v (opV_nilCheck rfl) rfl rfl rfl ?_
    refine doG_v (opV_fieldAddr fa105_0 rfl) rfl rfl rfl ?_
    refine doG_v (opV_load_base (B := ⟨w, []⟩) hb ty31 rfl rfl) rfl rfl rfl ?_
    refine doG_v (opV_move rfl) rfl rfl rfl ?_
    refine doG_v (opV_nilCheck rfl) rfl rfl rfl ?_
    refine doG_v (opV_fieldAddr fa105_1 rfl) rfl rfl rfl ?_
    refine doG_v (opV_load_base (B := ⟨w, []⟩) hb ty3 rfl rfl) rfl rfl rfl ?_
    refine doG_v (opV_sub rfl rfl (src_dec hlen h2)) rfl rfl rfl ?_
    refine doG_v (opV_indexSlice sl31 rfl rfl (by first | decide | omega) (by first | decide | omega)) rfl rfl rfl ?_
    refine doG_v (opV_load1_old ty3 rfl (by simp [Base.setRow]; omega) ((cell_setRow_other _ _ _ _ (by simp; omega)).trans (by simpa using hcc))) rfl rfl rfl ?_
    refine doG_v (opV_move rfl) rfl rfl rfl ?_
    refine doG_vg (F := vI) (opV_call en22 rfl (fun w _ => mRound _ _ (by first | omega | assumption | (unfold In64; omega) | decide) w)) rfl rfl rfl ?_; intro r34 hr34
    refine doG_nil ?_
    refine tail_nil ?_
    refine doL_v (opV_assign rfl) rfl rfl rfl ?_
    refine doL_nil ?_
    refine post_then ?_
    refine doC_ret ?_
    refine post_rets (rs := [.tmp 4]) rfl (resC (resIs_tmp rfl) (resN)) (congrArg (vI) (?_ : _ = srcR L i k))
    exact hr34
theorem srcSigned {b : Nat} {sl : Value} {L : List Int} {i : Nat} (k : Int) (hk : 0 ≤ k ∧ k ≤ 1000000000) (w : World) (hs : Src w b sl L i) : Calls Try.prog 28 [.pointer (some ⟨b, 0, none⟩), .int .i64 k].toArray w (Rets (vI (srcS L i k)) (srcW w b sl L (i + 1))) := by
  refine calls_src (n := 12) hs Try.func28 rfl rfl rfl ?_
  refine doC_seq ?_
  refine doC_region ?_
  refine doL_v (opV_assign rfl) rfl rfl rfl ?_
  refine doL_nil ?_
  refine post_then ?_
  refine doC_seq ?_
  refine doC_region ?_
  refine doL_v (opV_move rfl) rfl rfl rfl ?_
  refine doL_v (opV_move rfl) rfl rfl rfl ?_
  refine doL_v (opV_mul rfl rfl (by first | exact i64_in ⟨by omega, by omega⟩ | rfl)) rfl rfl rfl ?_
  refine doL_v (opV_add rfl rfl (by first | exact i64_in ⟨by omega, by omega⟩ | rfl)) rfl rfl rfl ?_
  refine doL_srcA (F := vI) hs en30 rfl (fun w' h => srcNext _ (by first | omega | assumption | (unfold In64; omega) | decide) w' h) rfl rfl ?_; intro r9 hr9
  have br9 := srcR_b hr9 (by first | decide | omega)
  refine doL_v (opV_move rfl) rfl rfl rfl ?_
  refine doL_v (opV_sub rfl rfl (by first | exact i64_in ⟨by omega, by omega⟩ | rfl)) rfl rfl rfl ?_
  refine doL_v (opV_assign rfl) rfl rfl rfl ?_
  refine doL_nil ?_
  refine post_then ?_
  refine doC_ret ?_
  refine post_rets (rs := [.tmp 4]) rfl (resC (resIs_tmp rfl) (resN)) (congrArg (vI) (?_ : _ = srcS L i k))
  subst_vars; rfl
end Go.Proofs.Ytonampcmhhhffaa

/- The walks of MatrixApplies and MatrixComposes, and of what they call. No condition. -/
import Derived.Test.YtonampcmhhhffaaProg
import Derived.Test.YtonampcmhhhffaaMatSrc
import Derived.Test.YtonampcmhhhffaaA1
import Derived.Test.YtonampcmhhhffaaA2
import Derived.Test.YtonampcmhhhffaaM1
import Derived.Test.YtonampcmhhhffaaM2
import Derived.Test.YtonampcmhhhffaaSrc
import Derived.Test.YtonampcmhhhffaaL4
namespace Go.Proofs.Ytonampcmhhhffaa
open Go.Sx
theorem en28 : Enters Try.prog 28 := enters_of Try.func28 (by kernel_rfl) (by kernel_rfl)
theorem en90 : Enters Try.prog 90 := enters_of Try.func90 (by kernel_rfl) (by kernel_rfl)
theorem en47 : Enters Try.prog 47 := enters_of Try.func47 (by kernel_rfl) (by kernel_rfl)
theorem en55 : Enters Try.prog 55 := enters_of Try.func55 (by kernel_rfl) (by kernel_rfl)
theorem en48 : Enters Try.prog 48 := enters_of Try.func48 (by kernel_rfl) (by kernel_rfl)
theorem en91 : Enters Try.prog 91 := enters_of Try.func91 (by kernel_rfl) (by kernel_rfl)
theorem en34 : Enters Try.prog 34 := enters_of Try.func34 (by kernel_rfl) (by kernel_rfl)
theorem en92 : Enters Try.prog 92 := enters_of Try.func92 (by kernel_rfl) (by kernel_rfl)
theorem en41 : Enters Try.prog 41 := enters_of Try.func41 (by kernel_rfl) (by kernel_rfl)
theorem en93 : Enters Try.prog 93 := enters_of Try.func93 (by kernel_rfl) (by kernel_rfl)
theorem en40 : Enters Try.prog 40 := enters_of Try.func40 (by kernel_rfl) (by kernel_rfl)
theorem en94 : Enters Try.prog 94 := enters_of Try.func94 (by kernel_rfl) (by kernel_rfl)
theorem en26 : Enters Try.prog 26 := enters_of Try.func26 (by kernel_rfl) (by kernel_rfl)
theorem en37 : Enters Try.prog 37 := enters_of Try.func37 (by kernel_rfl) (by kernel_rfl)
theorem en38 : Enters Try.prog 38 := enters_of Try.func38 (by kernel_rfl) (by kernel_rfl)
theorem en39 : Enters Try.prog 39 := enters_of Try.func39 (by kernel_rfl) (by kernel_rfl)
theorem ty38 : tyB Try.prog 38 true 3 = true := by kernel_rfl
theorem en42 : Enters Try.prog 42 := enters_of Try.func42 (by kernel_rfl) (by kernel_rfl)
theorem en36 : Enters Try.prog 36 := enters_of Try.func36 (by kernel_rfl) (by kernel_rfl)
theorem en43 : Enters Try.prog 43 := enters_of Try.func43 (by kernel_rfl) (by kernel_rfl)

theorem mkVec {b : Nat} {sl : Value} {L : List Int} {i : Nat} (w : World) (hs : Src w b sl L i) : Calls Try.prog 38 [.pointer (some ⟨b, 0, none⟩)].toArray w (Rets (v3 (vecOf L i)) (srcW w b sl L (i + 9))) := by
  refine calls_src (n := 24) hs Try.func38 rfl rfl rfl ?_
  refine doC_seq ?_
  refine doC_region ?_
  refine doL_alloc 2 ze34 rfl rfl rfl ?_; intro b2
  refine doL_nil ?_
  refine post_then ?_
  refine doC_seq ?_
  refine doC_region ?_
  refine doL_alloc 3 ze34 rfl rfl rfl ?_; intro b3
  refine doL_nil ?_
  refine post_then ?_
  refine doC_seq ?_
  refine doC_seq ?_
  refine doC_region ?_
  refine doL_v (opV_assign rfl) rfl rfl rfl ?_
  refine doL_nil ?_
  refine post_then ?_
  refine doC_block ?_
  refine doC_rounds 4 ?_
  refine doR_succ ?_
  refine doC_seq ?_
  refine doC_seq ?_
  refine doC_region ?_
  refine doL_v (opV_move rfl) rfl rfl rfl ?_
  refine doL_v (opV_lss rfl rfl) rfl rfl rfl ?_
  refine doL_nil ?_
  refine post_then ?_
  refine doC_cond_t rfl (by decide) ?_
  refine doC_skip ?_
  refine post_then ?_
  refine doC_seq ?_
  refine doC_block ?_
  refine doC_seq ?_
  refine doC_region ?_
  refine doL_v (opV_move rfl) rfl rfl rfl ?_
  refine doL_srcA (F := vI) hs en28 rfl (fun w' h => srcSigned _ (by first | omega | assumption | (unfold In64; omega) | decide) w' h) rfl rfl ?_; intro r11 hr11
  have br11 := srcS_b hr11 (by first | decide | omega)
  refine doL_v (opV_assign rfl) rfl rfl rfl ?_
  refine doL_nil ?_
  refine post_then ?_
  refine doC_region ?_
  refine doL_v (opV_move rfl) rfl rfl rfl ?_
  refine doL_v (opV_move rfl) rfl rfl rfl ?_
  refine doL_v (opV_move rfl) rfl rfl rfl ?_
  refine doL_v (opV_move rfl) rfl rfl rfl ?_
  refine doL_srcA (F := vI) hs en30 rfl (fun w' h => srcNext _ (by first | omega | assumption | (unfold In64; omega) | decide) w' h) rfl rfl ?_; intro r16 hr16
  have br16 := srcR_b hr16 (by first | decide | omega)
  refine doL_v (opV_move rfl) rfl rfl rfl ?_
  refine doL_srcA (F := vI) hs en30 rfl (fun w' h => srcNext _ (by first | omega | assumption | (unfold In64; omega) | decide) w' h) rfl rfl ?_; intro r18 hr18
  have br18 := srcR_b hr18 (by first | decide | omega)
  have mr18 := prod_b br16 br18
  refine doL_v (opV_mul rfl rfl (by first | exact i64_in ⟨by omega, by omega⟩ | rfl)) rfl rfl rfl ?_
  refine doL_v (opV_add rfl rfl (by first | exact i64_in ⟨by omega, by omega⟩ | rfl)) rfl rfl rfl ?_
  refine doL_v (opV_build la23 rfl rfl) rfl rfl rfl ?_
  refine doL_v (opV_indexAddr ar34 rfl rfl (by first | decide | omega) (by first | decide | omega)) rfl rfl rfl ?_
  refine doL_store 3 ty23 rfl rfl rfl rfl rfl rfl rfl rfl ?_
  refine doL_nil ?_
  refine post_block_normal ?_
  refine post_then ?_
  refine doC_region ?_
  refine doL_v (opV_move rfl) rfl rfl rfl ?_
  refine doL_v (opV_add rfl rfl (by first | exact i64_in ⟨by omega, by omega⟩ | rfl)) rfl rfl rfl ?_
  refine doL_v (opV_assign rfl) rfl rfl rfl ?_
  refine doL_nil ?_
  refine post_rounds ?_
  refine doR_succ ?_
  refine doC_seq ?_
  refine doC_seq ?_
  refine doC_region ?_
  refine doL_v (opV_move rfl) rfl rfl rfl ?_
  refine doL_v (opV_lss rfl rfl) rfl rfl rfl ?_
  refine doL_nil ?_
  refine post_then ?_
  refine doC_cond_t rfl (by decide) ?_
  refine doC_skip ?_
  refine post_then ?_
  refine doC_seq ?_
  refine doC_block ?_
  refine doC_seq ?_
  refine doC_region ?_
  refine doL_v (opV_move rfl) rfl rfl rfl ?_
  refine doL_srcA (F := vI) hs en28 rfl (fun w' h => srcSigned _ (by first | omega | assumption | (unfold In64; omega) | decide) w' h) rfl rfl ?_; intro r11_2 hr11_2
  have br11_2 := srcS_b hr11_2 (by first | decide | omega)
  refine doL_v (opV_assign rfl) rfl rfl rfl ?_
  refine doL_nil ?_
  refine post_then ?_
  refine doC_region ?_
  refine doL_v (opV_move rfl) rfl rfl rfl ?_
  refine doL_v (opV_move rfl) rfl rfl rfl ?_
  refine doL_v (opV_move rfl) rfl rfl rfl ?_
  refine doL_v (opV_move rfl) rfl rfl rfl ?_
  refine doL_srcA (F := vI) hs en30 rfl (fun w' h => srcNext _ (by first | omega | assumption | (unfold In64; omega) | decide) w' h) rfl rfl ?_; intro r16_2 hr16_2
  have br16_2 := srcR_b hr16_2 (by first | decide | omega)
  refine doL_v (opV_move rfl) rfl rfl rfl ?_
  refine doL_srcA (F := vI) hs en30 rfl (fun w' h => srcNext _ (by first | omega | assumption | (unfold In64; omega) | decide) w' h) rfl rfl ?_; intro r18_2 hr18_2
  have br18_2 := srcR_b hr18_2 (by first | decide | omega)
  have mr18_2 := prod_b br16_2 br18_2
  refine doL_v (opV_mul rfl rfl (by first | exact i64_in ⟨by omega, by omega⟩ | rfl)) rfl rfl rfl ?_
  refine doL_v (opV_add rfl rfl (by first | exact i64_in ⟨by omega, by omega⟩ | rfl)) rfl rfl rfl ?_
  refine doL_v (opV_build la23 rfl rfl) rfl rfl rfl ?_
  refine doL_v (opV_indexAddr ar34 rfl rfl (by first | decide | omega) (by first | decide | omega)) rfl rfl rfl ?_
  refine doL_store 3 ty23 rfl rfl rfl rfl rfl rfl rfl rfl ?_
  refine doL_nil ?_
  refine post_block_normal ?_
  refine post_then ?_
  refine doC_region ?_
  refine doL_v (opV_move rfl) rfl rfl rfl ?_
  refine doL_v (opV_add rfl rfl (by first | exact i64_in ⟨by omega, by omega⟩ | rfl)) rfl rfl rfl ?_
  refine doL_v (opV_assign rfl) rfl rfl rfl ?_
  refine doL_nil ?_
  refine post_rounds ?_
  refine doR_succ ?_
  refine doC_seq ?_
  refine doC_seq ?_
  refine doC_region ?_
  refine doL_v (opV_move rfl) rfl rfl rfl ?_
  refine doL_v (opV_lss rfl rfl) rfl rfl rfl ?_
  refine doL_nil ?_
  refine post_then ?_
  refine doC_cond_t rfl (by decide) ?_
  refine doC_skip ?_
  refine post_then ?_
  refine doC_seq ?_
  refine doC_block ?_
  refine doC_seq ?_
  refine doC_region ?_
  refine doL_v (opV_move rfl) rfl rfl rfl ?_
  refine doL_srcA (F := vI) hs en28 rfl (fun w' h => srcSigned _ (by first | omega | assumption | (unfold In64; omega) | decide) w' h) rfl rfl ?_; intro r11_3 hr11_3
  have br11_3 := srcS_b hr11_3 (by first | decide | omega)
  refine doL_v (opV_assign rfl) rfl rfl rfl ?_
  refine doL_nil ?_
  refine post_then ?_
  refine doC_region ?_
  refine doL_v (opV_move rfl) rfl rfl rfl ?_
  refine doL_v (opV_move rfl) rfl rfl rfl ?_
  refine doL_v (opV_move rfl) rfl rfl rfl ?_
  refine doL_v (opV_move rfl) rfl rfl rfl ?_
  refine doL_srcA (F := vI) hs en30 rfl (fun w' h => srcNext _ (by first | omega | assumption | (unfold In64; omega) | decide) w' h) rfl rfl ?_; intro r16_3 hr16_3
  have br16_3 := srcR_b hr16_3 (by first | decide | omega)
  refine doL_v (opV_move rfl) rfl rfl rfl ?_
  refine doL_srcA (F := vI) hs en30 rfl (fun w' h => srcNext _ (by first | omega | assumption | (unfold In64; omega) | decide) w' h) rfl rfl ?_; intro r18_3 hr18_3
  have br18_3 := srcR_b hr18_3 (by first | decide | omega)
  have mr18_3 := prod_b br16_3 br18_3
  refine doL_v (opV_mul rfl rfl (by first | exact i64_in ⟨by omega, by omega⟩ | rfl)) rfl rfl rfl ?_
  refine doL_v (opV_add rfl rfl (by first | exact i64_in ⟨by omega, by omega⟩ | rfl)) rfl rfl rfl ?_
  refine doL_v (opV_build la23 rfl rfl) rfl rfl rfl ?_
  refine doL_v (opV_indexAddr ar34 rfl rfl (by first | decide | omega) (by first | decide | omega)) rfl rfl rfl ?_
  refine doL_store 3 ty23 rfl rfl rfl rfl rfl rfl rfl rfl ?_
  refine doL_nil ?_
  refine post_block_normal ?_
  refine post_then ?_
  refine doC_region ?_
  refine doL_v (opV_move rfl) rfl rfl rfl ?_
  refine doL_v (opV_add rfl rfl (by first | exact i64_in ⟨by omega, by omega⟩ | rfl)) rfl rfl rfl ?_
  refine doL_v (opV_assign rfl) rfl rfl rfl ?_
  refine doL_nil ?_
  refine post_rounds ?_
  refine doR_succ ?_
  refine doC_seq ?_
  refine doC_seq ?_
  refine doC_region ?_
  refine doL_v (opV_move rfl) rfl rfl rfl ?_
  refine doL_v (opV_lss rfl rfl) rfl rfl rfl ?_
  refine doL_nil ?_
  refine post_then ?_
  refine doC_cond_f rfl (by decide) ?_
  refine doC_exit ?_
  refine post_then_exit ?_
  refine post_then_exit ?_
  refine post_block_exit ?_
  refine post_then ?_
  refine doC_seq ?_
  refine doC_region ?_
  refine doL_v (opV_loadA 3 ty34 rfl rfl rfl) rfl rfl rfl ?_
  refine doL_store 2 ty34 rfl rfl rfl rfl rfl rfl rfl rfl ?_
  refine doL_nil ?_
  refine post_then ?_
  refine doC_ret ?_
  refine post_rets (rs := [.cell 2 34]) rfl (resC (resIs_cell 2 rfl rfl ty34 rfl) (resN)) (congrArg (v3) (?_ : ⟨⟨_, _⟩, ⟨_, _⟩, ⟨_, _⟩⟩ = vecOf L i))
  subst_vars; rfl

theorem mkTurn {b : Nat} {sl : Value} {L : List Int} {i : Nat} (w : World) (hs : Src w b sl L i) : Calls Try.prog 37 [.pointer (some ⟨b, 0, none⟩)].toArray w (Rets (m3 (turnOf L i)) (srcW w b sl L (i + 4))) := by
  refine calls_src (n := 18) hs Try.func37 rfl rfl rfl ?_
  refine doC_seq ?_
  refine doC_region ?_
  refine doL_alloc 2 ze28 rfl rfl rfl ?_; intro b2
  refine doL_nil ?_
  refine post_then ?_
  refine doC_seq ?_
  refine doC_region ?_
  refine doL_v (opV_move rfl) rfl rfl rfl ?_
  refine doL_srcA (F := vI) hs en28 rfl (fun w' h => srcSigned _ (by first | omega | assumption | (unfold In64; omega) | decide) w' h) rfl rfl ?_; intro r5 hr5
  have br5 := srcS_b hr5 (by first | decide | omega)
  refine doL_v (opV_assign rfl) rfl rfl rfl ?_
  refine doL_nil ?_
  refine post_then ?_
  refine doC_seq ?_
  refine doC_region ?_
  refine doL_v (opV_move rfl) rfl rfl rfl ?_
  refine doL_srcA (F := vI) hs en30 rfl (fun w' h => srcNext _ (by first | omega | assumption | (unfold In64; omega) | decide) w' h) rfl rfl ?_; intro r7 hr7
  have br7 := srcR_b hr7 (by first | decide | omega)
  refine doL_v (opV_move rfl) rfl rfl rfl ?_
  refine doL_v (opV_move rfl) rfl rfl rfl ?_
  refine doL_v (opV_move rfl) rfl rfl rfl ?_
  refine doL_srcA (F := vI) hs en30 rfl (fun w' h => srcNext _ (by first | omega | assumption | (unfold In64; omega) | decide) w' h) rfl rfl ?_; intro r11 hr11
  have br11 := srcR_b hr11 (by first | decide | omega)
  refine doL_v (opV_move rfl) rfl rfl rfl ?_
  refine doL_srcA (F := vI) hs en30 rfl (fun w' h => srcNext _ (by first | omega | assumption | (unfold In64; omega) | decide) w' h) rfl rfl ?_; intro r13 hr13
  have br13 := srcR_b hr13 (by first | decide | omega)
  have mr13 := prod_b br11 br13
  refine doL_v (opV_mul rfl rfl (by first | exact i64_in ⟨by omega, by omega⟩ | rfl)) rfl rfl rfl ?_
  refine doL_v (opV_add rfl rfl (by first | exact i64_in ⟨by omega, by omega⟩ | rfl)) rfl rfl rfl ?_
  refine doL_v (opV_build la23 rfl rfl) rfl rfl rfl ?_
  refine doL_vg (F := m3) (opV_call en25 rfl (fun w _ => rTurn _ _ _  w)) rfl rfl rfl ?_; intro r17 hr17
  refine doL_store 2 ty28 rfl rfl rfl rfl rfl rfl rfl rfl ?_
  refine doL_nil ?_
  refine post_then ?_
  refine doC_ret ?_
  refine post_rets (rs := [.cell 2 28]) rfl (resC (resIs_cell 2 rfl rfl ty28 rfl) (resN)) (congrArg (m3) (?_ : ⟨⟨⟨_, _⟩, ⟨_, _⟩, ⟨_, _⟩⟩, ⟨⟨_, _⟩, ⟨_, _⟩, ⟨_, _⟩⟩, ⟨⟨_, _⟩, ⟨_, _⟩, ⟨_, _⟩⟩⟩ = turnOf L i))
  subst_vars; rfl

theorem eq_bb {p q : Bool} (h : p = q) : (p == q) = true := by subst h; simp

theorem wApplies0 (ma0 ma1 ma2 ma3 ma4 ma5 ma6 ma7 ma8 ma9 ma10 ma11 ma12 ma13 ma14 ma15 ma16 ma17 : Int) (ua0 ua1 ua2 ua3 ua4 ua5 : Int) (va0 va1 va2 va3 va4 va5 : Int) (w : World) : Calls Try.prog 39 [.agg #[.int .i64 ma0, .int .i64 ma1, .int .i64 ma2, .int .i64 ma3, .int .i64 ma4, .int .i64 ma5, .int .i64 ma6, .int .i64 ma7, .int .i64 ma8, .int .i64 ma9, .int .i64 ma10, .int .i64 ma11, .int .i64 ma12, .int .i64 ma13, .int .i64 ma14, .int .i64 ma15, .int .i64 ma16, .int .i64 ma17], .agg #[.int .i64 ua0, .int .i64 ua1, .int .i64 ua2, .int .i64 ua3, .int .i64 ua4, .int .i64 ua5], .agg #[.int .i64 va0, .int .i64 va1, .int .i64 va2, .int .i64 va3, .int .i64 va4, .int .i64 va5]].toArray w (Rets (vB (true)) (w)) := by
  refine calls_of_doC (n := 41) Try.func39 rfl rfl rfl ?_
  refine doC_seq ?_
  refine doC_region ?_
  refine doL_box 3 rfl rfl rfl rfl ?_; intro b3
  refine doL_box 4 rfl rfl rfl rfl ?_; intro b4
  refine doL_box 5 rfl rfl rfl rfl ?_; intro b5
  refine doL_v (opV_assign rfl) rfl rfl rfl ?_
  refine doL_nil ?_
  refine post_then ?_
  refine doC_seq ?_
  refine doC_drawn 34 mo (by kernel_rfl) ?_
  simp only [List.take_succ_cons, List.take_zero, List.drop_succ_cons, List.drop_zero]
  refine doG_v (opV_loadA 3 ty28 rfl rfl rfl) rfl rfl rfl ?_
  refine doG_v (opV_loadA 4 ty34 rfl rfl rfl) rfl rfl rfl ?_
  refine doG_vg (F := v3) (opV_call en29 rfl (fun w _ => mApply _ _ _ _ _ _ _ _ _ _ _ _ _ _ _ _ _ _ _ _ _ _ _ _  w)) rfl rfl rfl ?_; intro r9 hr9
  refine doG_v (opV_loadA 3 ty28 rfl rfl rfl) rfl rfl rfl ?_
  refine doG_v (opV_loadA 4 ty34 rfl rfl rfl) rfl rfl rfl ?_
  refine doG_vg (F := v3) (opV_call en90 rfl (fun w _ => rApply _ _ _ _ _ _ _ _ _ _ _ _ _ _ _ _ _ _ _ _ _ _ _ _  w)) rfl rfl rfl ?_; intro r12 hr12
  refine doG_vg (F := vB) (opV_eqA 4 rfl ag34 rfl rfl (ce34 _ _ _ _ _ _) (ce34 _ _ _ _ _ _)) rfl rfl rfl ?_; intro r13 hr13
  obtain rfl : r13 = true := hr13.trans (eq_v3 (hr9.trans hr12.symm))
  refine doG_v (opV_move rfl) rfl rfl rfl ?_
  refine doG_v (opV_loadA 4 ty34 rfl rfl rfl) rfl rfl rfl ?_
  refine doG_v (opV_loadA 5 ty34 rfl rfl rfl) rfl rfl rfl ?_
  refine doG_vg (F := v3) (opV_call en47 rfl (fun w _ => mAdd _ _ _ _ _ _ _ _ _ _ _ _  w)) rfl rfl rfl ?_; intro r17 hr17
  refine doG_v (opV_loadA 4 ty34 rfl rfl rfl) rfl rfl rfl ?_
  refine doG_v (opV_loadA 5 ty34 rfl rfl rfl) rfl rfl rfl ?_
  refine doG_vg (F := v3) (opV_call en55 rfl (fun w _ => rAddVec _ _ _ _ _ _ _ _ _ _ _ _  w)) rfl rfl rfl ?_; intro r20 hr20
  refine doG_vg (F := vB) (opV_eqA 4 rfl ag34 rfl rfl (ce34 _ _ _ _ _ _) (ce34 _ _ _ _ _ _)) rfl rfl rfl ?_; intro r21 hr21
  obtain rfl : r21 = true := hr21.trans (eq_v3 (hr17.trans hr20.symm))
  refine doG_v (opV_pick_t rfl rfl rfl rfl) rfl rfl rfl ?_
  refine doG_v (opV_move rfl) rfl rfl rfl ?_
  refine doG_v (opV_loadA 4 ty34 rfl rfl rfl) rfl rfl rfl ?_
  refine doG_v (opV_loadA 5 ty34 rfl rfl rfl) rfl rfl rfl ?_
  refine doG_vg (F := v3) (opV_call en48 rfl (fun w _ => mSub _ _ _ _ _ _ _ _ _ _ _ _  w)) rfl rfl rfl ?_; intro r26 hr26
  refine doG_v (opV_loadA 4 ty34 rfl rfl rfl) rfl rfl rfl ?_
  refine doG_v (opV_loadA 5 ty34 rfl rfl rfl) rfl rfl rfl ?_
  refine doG_vg (F := v3) (opV_call en91 rfl (fun w _ => rSubVec _ _ _ _ _ _ _ _ _ _ _ _  w)) rfl rfl rfl ?_; intro r29 hr29
  refine doG_vg (F := vB) (opV_eqA 4 rfl ag34 rfl rfl (ce34 _ _ _ _ _ _) (ce34 _ _ _ _ _ _)) rfl rfl rfl ?_; intro r30 hr30
  obtain rfl : r30 = true := hr30.trans (eq_v3 (hr26.trans hr29.symm))
  refine doG_v (opV_pick_t rfl rfl rfl rfl) rfl rfl rfl ?_
  refine doG_v (opV_move rfl) rfl rfl rfl ?_
  refine doG_v (opV_loadA 4 ty34 rfl rfl rfl) rfl rfl rfl ?_
  refine doG_v (opV_loadA 5 ty34 rfl rfl rfl) rfl rfl rfl ?_
  refine doG_vg (F := vB) (opV_call en46 rfl (fun w _ => mWithin _ _ _ _ _ _ _ _ _ _ _ _  w)) rfl rfl rfl ?_; intro r35 hr35
  refine doG_v (opV_loadA 4 ty34 rfl rfl rfl) rfl rfl rfl ?_
  refine doG_v (opV_loadA 5 ty34 rfl rfl rfl) rfl rfl rfl ?_
  refine doG_vg (F := vB) (opV_call en69 rfl (fun w _ => rWithinVec _ _ _ _ _ _ _ _ _ _ _ _  w)) rfl rfl rfl ?_; intro r38 hr38
  refine doG_v (opV_eqlB Try.underlying4 rfl rfl) rfl rfl rfl ?_
  refine doG_v (opV_pick_t rfl rfl rfl rfl) rfl rfl rfl ?_
  refine doG_nil ?_
  refine tail_nil ?_
  refine doL_v (opV_assign rfl) rfl rfl rfl ?_
  refine doL_nil ?_
  refine post_then ?_
  refine doC_ret ?_
  refine post_rets (rs := [.tmp 6]) rfl (resC (resIs_tmp rfl) (resN)) (congrArg (vB) (?_ : _ = true))
  exact eq_bb (hr35.trans hr38.symm)

theorem wComposes0 (ma0 ma1 ma2 ma3 ma4 ma5 ma6 ma7 ma8 ma9 ma10 ma11 ma12 ma13 ma14 ma15 ma16 ma17 : Int) (ua0 ua1 ua2 ua3 ua4 ua5 ua6 ua7 ua8 ua9 ua10 ua11 ua12 ua13 ua14 ua15 ua16 ua17 : Int) (w : World) : Calls Try.prog 43 [.agg #[.int .i64 ma0, .int .i64 ma1, .int .i64 ma2, .int .i64 ma3, .int .i64 ma4, .int .i64 ma5, .int .i64 ma6, .int .i64 ma7, .int .i64 ma8, .int .i64 ma9, .int .i64 ma10, .int .i64 ma11, .int .i64 ma12, .int .i64 ma13, .int .i64 ma14, .int .i64 ma15, .int .i64 ma16, .int .i64 ma17], .agg #[.int .i64 ua0, .int .i64 ua1, .int .i64 ua2, .int .i64 ua3, .int .i64 ua4, .int .i64 ua5, .int .i64 ua6, .int .i64 ua7, .int .i64 ua8, .int .i64 ua9, .int .i64 ua10, .int .i64 ua11, .int .i64 ua12, .int .i64 ua13, .int .i64 ua14, .int .i64 ua15, .int .i64 ua16, .int .i64 ua17]].toArray w (Rets (vB (true)) (w)) := by
  refine calls_of_doC (n := 37) Try.func43 rfl rfl rfl ?_
  refine doC_seq ?_
  refine doC_region ?_
  refine doL_box 2 rfl rfl rfl rfl ?_; intro b2
  refine doL_box 3 rfl rfl rfl rfl ?_; intro b3
  refine doL_v (opV_assign rfl) rfl rfl rfl ?_
  refine doL_nil ?_
  refine post_then ?_
  refine doC_seq ?_
  refine doC_drawn 32 mo (by kernel_rfl) ?_
  simp only [List.take_succ_cons, List.take_zero, List.drop_succ_cons, List.drop_zero]
  refine doG_v (opV_loadA 2 ty28 rfl rfl rfl) rfl rfl rfl ?_
  refine doG_v (opV_loadA 3 ty28 rfl rfl rfl) rfl rfl rfl ?_
  refine doG_vg (F := m3) (opV_call en34 rfl (fun w _ => mCompose _ _ _ _ _ _ _ _ _ _ _ _ _ _ _ _ _ _ _ _ _ _ _ _ _ _ _ _ _ _ _ _ _ _ _ _  w)) rfl rfl rfl ?_; intro r7 hr7
  refine doG_v (opV_loadA 2 ty28 rfl rfl rfl) rfl rfl rfl ?_
  refine doG_v (opV_loadA 3 ty28 rfl rfl rfl) rfl rfl rfl ?_
  refine doG_vg (F := m3) (opV_call en92 rfl (fun w _ => rCompose _ _ _ _ _ _ _ _ _ _ _ _ _ _ _ _ _ _ _ _ _ _ _ _ _ _ _ _ _ _ _ _ _ _ _ _  w)) rfl rfl rfl ?_; intro r10 hr10
  refine doG_vg (F := vB) (opV_eqA 4 rfl ag28 rfl rfl (ce28 _ _ _ _ _ _ _ _ _ _ _ _ _ _ _ _ _ _) (ce28 _ _ _ _ _ _ _ _ _ _ _ _ _ _ _ _ _ _)) rfl rfl rfl ?_; intro r11 hr11
  obtain rfl : r11 = true := hr11.trans (eq_m3 (hr7.trans hr10.symm))
  refine doG_v (opV_move rfl) rfl rfl rfl ?_
  refine doG_v (opV_loadA 2 ty28 rfl rfl rfl) rfl rfl rfl ?_
  refine doG_vg (F := m3) (opV_call en41 rfl (fun w _ => mTranspose _ _ _ _ _ _ _ _ _ _ _ _ _ _ _ _ _ _  w)) rfl rfl rfl ?_; intro r14 hr14
  refine doG_v (opV_loadA 2 ty28 rfl rfl rfl) rfl rfl rfl ?_
  refine doG_vg (F := m3) (opV_call en93 rfl (fun w _ => rTranspose _ _ _ _ _ _ _ _ _ _ _ _ _ _ _ _ _ _  w)) rfl rfl rfl ?_; intro r16 hr16
  refine doG_vg (F := vB) (opV_eqA 4 rfl ag28 rfl rfl (ce28 _ _ _ _ _ _ _ _ _ _ _ _ _ _ _ _ _ _) (ce28 _ _ _ _ _ _ _ _ _ _ _ _ _ _ _ _ _ _)) rfl rfl rfl ?_; intro r17 hr17
  obtain rfl : r17 = true := hr17.trans (eq_m3 (hr14.trans hr16.symm))
  refine doG_v (opV_pick_t rfl rfl rfl rfl) rfl rfl rfl ?_
  refine doG_v (opV_move rfl) rfl rfl rfl ?_
  refine doG_v (opV_loadA 2 ty28 rfl rfl rfl) rfl rfl rfl ?_
  refine doG_v (opV_loadA 3 ty28 rfl rfl rfl) rfl rfl rfl ?_
  refine doG_vg (F := vB) (opV_call en40 rfl (fun w _ => mWithinMat _ _ _ _ _ _ _ _ _ _ _ _ _ _ _ _ _ _ _ _ _ _ _ _ _ _ _ _ _ _ _ _ _ _ _ _  w)) rfl rfl rfl ?_; intro r22 hr22
  refine doG_v (opV_loadA 2 ty28 rfl rfl rfl) rfl rfl rfl ?_
  refine doG_v (opV_loadA 3 ty28 rfl rfl rfl) rfl rfl rfl ?_
  refine doG_vg (F := vB) (opV_call en94 rfl (fun w _ => rWithinMat _ _ _ _ _ _ _ _ _ _ _ _ _ _ _ _ _ _ _ _ _ _ _ _ _ _ _ _ _ _ _ _ _ _ _ _  w)) rfl rfl rfl ?_; intro r25 hr25
  refine doG_vg (F := vB) (opV_eqlB Try.underlying4 rfl rfl) rfl rfl rfl ?_; intro r26 hr26
  obtain rfl : r26 = true := hr26.trans (eq_bb (hr22.trans hr25.symm))
  refine doG_v (opV_pick_t rfl rfl rfl rfl) rfl rfl rfl ?_
  refine doG_v (opV_move rfl) rfl rfl rfl ?_
  refine doG_v (opV_loadA 2 ty28 rfl rfl rfl) rfl rfl rfl ?_
  refine doG_v (opV_loadA 2 ty28 rfl rfl rfl) rfl rfl rfl ?_
  refine doG_vg (F := vB) (opV_call en40 rfl (fun w _ => mWithinMat _ _ _ _ _ _ _ _ _ _ _ _ _ _ _ _ _ _ _ _ _ _ _ _ _ _ _ _ _ _ _ _ _ _ _ _  w)) rfl rfl rfl ?_; intro r31 hr31
  refine doG_v (opV_loadA 2 ty28 rfl rfl rfl) rfl rfl rfl ?_
  refine doG_v (opV_loadA 2 ty28 rfl rfl rfl) rfl rfl rfl ?_
  refine doG_vg (F := vB) (opV_call en94 rfl (fun w _ => rWithinMat _ _ _ _ _ _ _ _ _ _ _ _ _ _ _ _ _ _ _ _ _ _ _ _ _ _ _ _ _ _ _ _ _ _ _ _  w)) rfl rfl rfl ?_; intro r34 hr34
  refine doG_v (opV_eqlB Try.underlying4 rfl rfl) rfl rfl rfl ?_
  refine doG_v (opV_pick_t rfl rfl rfl rfl) rfl rfl rfl ?_
  refine doG_nil ?_
  refine tail_nil ?_
  refine doL_v (opV_assign rfl) rfl rfl rfl ?_
  refine doL_nil ?_
  refine post_then ?_
  refine doC_ret ?_
  refine post_rets (rs := [.tmp 4]) rfl (resC (resIs_tmp rfl) (resN)) (congrArg (vB) (?_ : _ = true))
  exact eq_bb (hr31.trans hr34.symm)

theorem wApplies (ma0 ma1 ma2 ma3 ma4 ma5 ma6 ma7 ma8 ma9 ma10 ma11 ma12 ma13 ma14 ma15 ma16 ma17 : Int) (ua0 ua1 ua2 ua3 ua4 ua5 : Int) (va0 va1 va2 va3 va4 va5 : Int) (pa0 pa1 pa2 : Int) (lv : Value) (l : List Int) (w : World) (hl : IntsAt w w.heap.size lv l) : Calls Try.prog 7 [.agg #[.int .i64 ma0, .int .i64 ma1, .int .i64 ma2, .int .i64 ma3, .int .i64 ma4, .int .i64 ma5, .int .i64 ma6, .int .i64 ma7, .int .i64 ma8, .int .i64 ma9, .int .i64 ma10, .int .i64 ma11, .int .i64 ma12, .int .i64 ma13, .int .i64 ma14, .int .i64 ma15, .int .i64 ma16, .int .i64 ma17], .agg #[.int .i64 ua0, .int .i64 ua1, .int .i64 ua2, .int .i64 ua3, .int .i64 ua4, .int .i64 ua5], .agg #[.int .i64 va0, .int .i64 va1, .int .i64 va2, .int .i64 va3, .int .i64 va4, .int .i64 va5], .agg #[.int .i64 pa0, .int .i64 pa1, .int .i64 pa2], lv].toArray w (Rets (vB (true)) (w)) := by
  refine calls_of_doC (n := 43) Try.func7 rfl rfl rfl ?_
  refine doC_seq ?_
  refine doC_region ?_
  refine doL_box 5 rfl rfl rfl rfl ?_; intro b5
  refine doL_box 6 rfl rfl rfl rfl ?_; intro b6
  refine doL_box 7 rfl rfl rfl rfl ?_; intro b7
  refine doL_box 8 rfl rfl rfl rfl ?_; intro b8
  refine doL_v (opV_assign rfl) rfl rfl rfl ?_
  refine doL_nil ?_
  refine post_then ?_
  refine doC_seq ?_
  refine doC_region ?_
  refine doL_v (opV_move rfl) rfl rfl rfl ?_
  refine doL_callNew 16 en26 rfl (fun w' k => mFrom w' (intsAt_grow hl k.grow (Nat.le_refl _))) rfl rfl ?_; intro b16
  refine doL_v (opV_assign rfl) rfl rfl rfl ?_
  refine doL_nil ?_
  refine post_then ?_
  refine doC_seq ?_
  refine doC_region ?_
  refine doL_v (opV_move rfl) rfl rfl rfl ?_
  refine doL_srcB (F := m3) 16 hl rfl en37 rfl (fun w' h => mkTurn   w' h) rfl rfl rfl ?_; intro r18 hr18
  refine doL_v (opV_move rfl) rfl rfl rfl ?_
  refine doL_srcB (F := v3) 16 hl rfl en38 rfl (fun w' h => mkVec   w' h) rfl rfl rfl ?_; intro r20 hr20
  refine doL_v (opV_move rfl) rfl rfl rfl ?_
  refine doL_srcB (F := v3) 16 hl rfl en38 rfl (fun w' h => mkVec   w' h) rfl rfl rfl ?_; intro r22 hr22
  refine doL_alloc 12 ze28 rfl rfl rfl ?_; intro b12
  refine doL_alloc 13 ze34 rfl rfl rfl ?_; intro b13
  refine doL_alloc 14 ze34 rfl rfl rfl ?_; intro b14
  refine doL_store 12 ty28 rfl rfl rfl rfl rfl rfl rfl rfl ?_
  refine doL_store 13 ty34 rfl rfl rfl rfl rfl rfl rfl rfl ?_
  refine doL_store 14 ty34 rfl rfl rfl rfl rfl rfl rfl rfl ?_
  refine doL_nil ?_
  refine post_then ?_
  refine doC_seq ?_
  refine doC_drawn 20 mo (by kernel_rfl) ?_
  simp only [List.take_succ_cons, List.take_zero, List.drop_succ_cons, List.drop_zero]
  refine doG_vg (F := vB) (opV_call en23 rfl (fun w _ => awake4   w)) rfl rfl rfl ?_; intro r23 hr23
  obtain rfl : r23 = true := hr23
  refine doG_v (opV_move rfl) rfl rfl rfl ?_
  refine doG_v (opV_loadA 5 ty28 rfl rfl rfl) rfl rfl rfl ?_
  refine doG_v (opV_loadA 6 ty34 rfl rfl rfl) rfl rfl rfl ?_
  refine doG_v (opV_loadA 7 ty34 rfl rfl rfl) rfl rfl rfl ?_
  refine doG_vg (F := vB) (opV_call en39 rfl (fun w _ => wApplies0 _ _ _ _ _ _ _ _ _ _ _ _ _ _ _ _ _ _ _ _ _ _ _ _ _ _ _ _ _ _  w)) rfl rfl rfl ?_; intro r28 hr28
  obtain rfl : r28 = true := hr28
  refine doG_v (opV_pick_t rfl rfl rfl rfl) rfl rfl rfl ?_
  refine doG_v (opV_move rfl) rfl rfl rfl ?_
  refine doG_v (opV_loadA 12 ty28 rfl rfl rfl) rfl rfl rfl ?_
  refine doG_v (opV_loadA 13 ty34 rfl rfl rfl) rfl rfl rfl ?_
  refine doG_v (opV_loadA 14 ty34 rfl rfl rfl) rfl rfl rfl ?_
  refine doG_vg (F := vB) (opV_call en39 rfl (fun w _ => wApplies0 _ _ _ _ _ _ _ _ _ _ _ _ _ _ _ _ _ _ _ _ _ _ _ _ _ _ _ _ _ _  w)) rfl rfl rfl ?_; intro r34 hr34
  obtain rfl : r34 = true := hr34
  refine doG_v (opV_pick_t rfl rfl rfl rfl) rfl rfl rfl ?_
  refine doG_v (opV_move rfl) rfl rfl rfl ?_
  refine doG_v (opV_loadA 8 ty38 rfl rfl rfl) rfl rfl rfl ?_
  refine doG_vg (F := v3) (opV_call en35 rfl (fun w _ => mPoint _ _ _  w)) rfl rfl rfl ?_; intro r38 hr38
  refine doG_v (opV_loadA 8 ty38 rfl rfl rfl) rfl rfl rfl ?_
  refine doG_vg (F := v3) (opV_call en27 rfl (fun w _ => rPoint _ _ _  w)) rfl rfl rfl ?_; intro r40 hr40
  refine doG_v (opV_eqA 4 rfl ag34 rfl rfl (ce34 _ _ _ _ _ _) (ce34 _ _ _ _ _ _)) rfl rfl rfl ?_
  refine doG_v (opV_pick_t rfl rfl rfl rfl) rfl rfl rfl ?_
  refine doG_nil ?_
  refine tail_nil ?_
  refine doL_v (opV_assign rfl) rfl rfl rfl ?_
  refine doL_nil ?_
  refine post_then ?_
  refine doC_ret ?_
  refine post_rets (rs := [.tmp 10]) rfl (resC (resIs_tmp rfl) (resN)) (congrArg (vB) (?_ : _ = true))
  exact eq_v3 (hr38.trans hr40.symm)

theorem wComposes (aa0 aa1 aa2 aa3 aa4 aa5 aa6 aa7 aa8 aa9 aa10 aa11 aa12 aa13 aa14 aa15 aa16 aa17 : Int) (ba0 ba1 ba2 ba3 ba4 ba5 ba6 ba7 ba8 ba9 ba10 ba11 ba12 ba13 ba14 ba15 ba16 ba17 : Int) (lv : Value) (l : List Int) (w : World) (hl : IntsAt w w.heap.size lv l) : Calls Try.prog 9 [.agg #[.int .i64 aa0, .int .i64 aa1, .int .i64 aa2, .int .i64 aa3, .int .i64 aa4, .int .i64 aa5, .int .i64 aa6, .int .i64 aa7, .int .i64 aa8, .int .i64 aa9, .int .i64 aa10, .int .i64 aa11, .int .i64 aa12, .int .i64 aa13, .int .i64 aa14, .int .i64 aa15, .int .i64 aa16, .int .i64 aa17], .agg #[.int .i64 ba0, .int .i64 ba1, .int .i64 ba2, .int .i64 ba3, .int .i64 ba4, .int .i64 ba5, .int .i64 ba6, .int .i64 ba7, .int .i64 ba8, .int .i64 ba9, .int .i64 ba10, .int .i64 ba11, .int .i64 ba12, .int .i64 ba13, .int .i64 ba14, .int .i64 ba15, .int .i64 ba16, .int .i64 ba17], lv].toArray w (Rets (vB (true)) (w)) := by
  refine calls_of_doC (n := 37) Try.func9 rfl rfl rfl ?_
  refine doC_seq ?_
  refine doC_region ?_
  refine doL_box 3 rfl rfl rfl rfl ?_; intro b3
  refine doL_box 4 rfl rfl rfl rfl ?_; intro b4
  refine doL_v (opV_assign rfl) rfl rfl rfl ?_
  refine doL_nil ?_
  refine post_then ?_
  refine doC_seq ?_
  refine doC_region ?_
  refine doL_v (opV_move rfl) rfl rfl rfl ?_
  refine doL_callNew 11 en26 rfl (fun w' k => mFrom w' (intsAt_grow hl k.grow (Nat.le_refl _))) rfl rfl ?_; intro b11
  refine doL_v (opV_assign rfl) rfl rfl rfl ?_
  refine doL_nil ?_
  refine post_then ?_
  refine doC_seq ?_
  refine doC_region ?_
  refine doL_v (opV_move rfl) rfl rfl rfl ?_
  refine doL_srcB (F := m3) 11 hl rfl en37 rfl (fun w' h => mkTurn   w' h) rfl rfl rfl ?_; intro r13 hr13
  refine doL_v (opV_move rfl) rfl rfl rfl ?_
  refine doL_srcB (F := m3) 11 hl rfl en37 rfl (fun w' h => mkTurn   w' h) rfl rfl rfl ?_; intro r15 hr15
  refine doL_alloc 8 ze28 rfl rfl rfl ?_; intro b8
  refine doL_alloc 9 ze28 rfl rfl rfl ?_; intro b9
  refine doL_store 8 ty28 rfl rfl rfl rfl rfl rfl rfl rfl ?_
  refine doL_store 9 ty28 rfl rfl rfl rfl rfl rfl rfl rfl ?_
  refine doL_nil ?_
  refine post_then ?_
  refine doC_seq ?_
  refine doC_region ?_
  refine doL_vg (F := vB) (opV_call en23 rfl (fun w _ => awake4   w)) rfl rfl rfl ?_; intro r16 hr16
  refine doL_v (opV_move rfl) rfl rfl rfl ?_
  refine doL_true 17 rfl (hr16) ?_
  refine doL_vg (F := m3) (opV_call en42 rfl (fun w _ => mIdentity   w)) rfl rfl rfl ?_; intro r18 hr18
  refine doL_vg (F := m3) (opV_call en36 rfl (fun w _ => rUnit   w)) rfl rfl rfl ?_; intro r19 hr19
  refine doL_v (opV_eqA 4 rfl ag28 rfl rfl (ce28 _ _ _ _ _ _ _ _ _ _ _ _ _ _ _ _ _ _) (ce28 _ _ _ _ _ _ _ _ _ _ _ _ _ _ _ _ _ _)) rfl rfl rfl ?_
  refine doL_v (opV_pick_t rfl rfl rfl rfl) rfl rfl rfl ?_
  refine doL_v (opV_move rfl) rfl rfl rfl ?_
  refine doL_true 22 rfl (eq_m3 (hr18.trans hr19.symm)) ?_
  refine doL_v (opV_loadA 3 ty28 rfl rfl rfl) rfl rfl rfl ?_
  refine doL_v (opV_loadA 4 ty28 rfl rfl rfl) rfl rfl rfl ?_
  refine doL_vg (F := vB) (opV_call en43 rfl (fun w _ => wComposes0 _ _ _ _ _ _ _ _ _ _ _ _ _ _ _ _ _ _ _ _ _ _ _ _ _ _ _ _ _ _ _ _ _ _ _ _  w)) rfl rfl rfl ?_; intro r25 hr25
  refine doL_v (opV_pick_t rfl rfl rfl rfl) rfl rfl rfl ?_
  refine doL_v (opV_move rfl) rfl rfl rfl ?_
  refine doL_true 27 rfl (hr25) ?_
  refine doL_v (opV_loadA 8 ty28 rfl rfl rfl) rfl rfl rfl ?_
  refine doL_v (opV_loadA 9 ty28 rfl rfl rfl) rfl rfl rfl ?_
  refine doL_vg (F := vB) (opV_call en43 rfl (fun w _ => wComposes0 _ _ _ _ _ _ _ _ _ _ _ _ _ _ _ _ _ _ _ _ _ _ _ _ _ _ _ _ _ _ _ _ _ _ _ _  w)) rfl rfl rfl ?_; intro r30 hr30
  refine doL_v (opV_pick_t rfl rfl rfl rfl) rfl rfl rfl ?_
  refine doL_v (opV_move rfl) rfl rfl rfl ?_
  refine doL_true 32 rfl (hr30) ?_
  refine doL_v (opV_loadA 8 ty28 rfl rfl rfl) rfl rfl rfl ?_
  refine doL_v (opV_loadA 3 ty28 rfl rfl rfl) rfl rfl rfl ?_
  refine doL_vg (F := vB) (opV_call en43 rfl (fun w _ => wComposes0 _ _ _ _ _ _ _ _ _ _ _ _ _ _ _ _ _ _ _ _ _ _ _ _ _ _ _ _ _ _ _ _ _ _ _ _  w)) rfl rfl rfl ?_; intro r35 hr35
  refine doL_v (opV_pick_t rfl rfl rfl rfl) rfl rfl rfl ?_
  refine doL_v (opV_assign rfl) rfl rfl rfl ?_
  refine doL_nil ?_
  refine post_then ?_
  refine doC_ret ?_
  refine post_rets (rs := [.tmp 6]) rfl (resC (resIs_tmp rfl) (resN)) (congrArg (vB) (?_ : _ = true))
  exact hr35

end Go.Proofs.Ytonampcmhhhffaa

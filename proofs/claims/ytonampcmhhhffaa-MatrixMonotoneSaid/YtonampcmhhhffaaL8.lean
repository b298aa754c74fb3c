/- The walk of MatrixMonotone. No condition. -/
import Derived.Test.YtonampcmhhhffaaProg
import Derived.Test.YtonampcmhhhffaaMatLaw7
import Derived.Test.YtonampcmhhhffaaSxLateM
import Derived.Test.YtonampcmhhhffaaA1
import Derived.Test.YtonampcmhhhffaaA2
import Derived.Test.YtonampcmhhhffaaM1
import Derived.Test.YtonampcmhhhffaaM2
import Derived.Test.YtonampcmhhhffaaSrc
import Derived.Test.YtonampcmhhhffaaL4
import Derived.Test.YtonampcmhhhffaaL6
import Derived.Test.YtonampcmhhhffaaL7
namespace Go.Proofs.Ytonampcmhhhffaa
open Go.Sx
theorem en44 : Enters Try.prog 44 := enters_of Try.func44 (by kernel_rfl) (by kernel_rfl)
theorem en45 : Enters Try.prog 45 := enters_of Try.func45 (by kernel_rfl) (by kernel_rfl)

set_option maxRecDepth 100000 in
theorem wMonotone (lv : Value) (l : List Int) (mv : Value) (m : List Int) (w : World) (hl : IntsAt w w.heap.size lv l) (hm : IntsAt w w.heap.size mv m) : Calls Try.prog 10 [lv, mv].toArray w (Rets (vB (true)) (w)) := by
  refine calls_of_doC (n := 110) Try.func10 rfl rfl rfl ?_
  refine doC_seq ?_
  refine doC_region ?_
  refine doL_v (opV_assign rfl) rfl rfl rfl ?_
  refine doL_nil ?_
  refine post_then ?_
  refine doC_seq ?_
  refine doC_region ?_
  refine doL_v (opV_move rfl) rfl rfl rfl ?_
  refine doL_callNew 18 en26 rfl (fun w' k => mFrom w' (intsAt_grow hl k.grow (Nat.le_refl _))) rfl rfl ?_; intro b18
  refine doL_v (opV_move rfl) rfl rfl rfl ?_
  refine doL_callNew 20 en26 rfl (fun w' k => mFrom w' (intsAt_grow hm k.grow (Nat.le_refl _))) rfl rfl ?_; intro b20
  refine doL_v (opV_assign rfl) rfl rfl rfl ?_
  refine doL_v (opV_assign rfl) rfl rfl rfl ?_
  refine doL_nil ?_
  refine post_then ?_
  refine doC_seq ?_
  refine doC_region ?_
  refine doL_v (opV_move rfl) rfl rfl rfl ?_
  refine doL_srcB (F := vI) 18 hl rfl en30 rfl (fun w' h => srcNext _ (by first | omega | assumption | (unfold In64; omega) | decide) w' h) rfl rfl rfl ?_; intro r22 hr22
  have br22 := srcR_b hr22 (by first | decide | omega)
  refine doL_v (opV_move rfl) rfl rfl rfl ?_
  refine doL_srcB (F := vI) 18 hl rfl en30 rfl (fun w' h => srcNext _ (by first | omega | assumption | (unfold In64; omega) | decide) w' h) rfl rfl rfl ?_; intro r24 hr24
  have br24 := srcR_b hr24 (by first | decide | omega)
  refine doL_vg (F := iv) (opV_call en44 rfl (fun w _ => intervalC _ _  w)) rfl rfl rfl ?_; intro r25 hr25
  have okr25 : Ok r25 := hr25 ▸ interval_Ok _ _
  refine doL_alloc 7 ze23 rfl rfl rfl ?_; intro b7
  refine doL_store 7 ty23 rfl rfl rfl rfl rfl rfl rfl rfl ?_
  refine doL_nil ?_
  refine post_then ?_
  refine doC_seq ?_
  refine doC_region ?_
  refine doL_v (opV_move rfl) rfl rfl rfl ?_
  refine doL_srcB (F := vI) 18 hl rfl en30 rfl (fun w' h => srcNext _ (by first | omega | assumption | (unfold In64; omega) | decide) w' h) rfl rfl rfl ?_; intro r27 hr27
  have br27 := srcR_b hr27 (by first | decide | omega)
  refine doL_v (opV_assign rfl) rfl rfl rfl ?_
  refine doL_nil ?_
  refine post_then ?_
  refine doC_seq ?_
  refine doC_region ?_
  refine doL_v (opV_move rfl) rfl rfl rfl ?_
  refine doL_srcB (F := v3) 18 hl rfl en38 rfl (fun w' h => mkVec   w' h) rfl rfl rfl ?_; intro r29 hr29
  have okr29 : VOk r29 := hr29 ▸ vec_Ok _ _
  refine doL_alloc 9 ze34 rfl rfl rfl ?_; intro b9
  refine doL_store 9 ty34 rfl rfl rfl rfl rfl rfl rfl rfl ?_
  refine doL_nil ?_
  refine post_then ?_
  refine doC_seq ?_
  refine doC_srcB 20 7 [2, 4] rfl mo (by kernel_rfl) ?_
  simp only [List.take_succ_cons, List.take_zero, List.drop_succ_cons, List.drop_zero]
  refine doM_v (fun _ => opV_loadA 7 ty23 rfl rfl rfl) rfl rfl rfl rfl ?_
  refine doM_v (fun _ => opV_move rfl) rfl rfl rfl rfl ?_
  refine doM_srcB (F := vI) 20 hm rfl en30 rfl (fun w' h => srcNext _ (by first | omega | assumption | (unfold In64; omega) | decide) w' h) rfl rfl rfl ?_; intro r32 hr32
  have br32 := srcR_b hr32 (by first | decide | omega)
  refine doM_v (fun _ => opV_move rfl) rfl rfl rfl rfl ?_
  refine doM_srcB (F := vI) 20 hm rfl en30 rfl (fun w' h => srcNext _ (by first | omega | assumption | (unfold In64; omega) | decide) w' h) rfl rfl rfl ?_; intro r34 hr34
  have br34 := srcR_b hr34 (by first | decide | omega)
  refine doM_vg (F := iv) (fun _ => opV_call en45 rfl (fun w _ => partC _ _ _ _ okr25 w)) rfl rfl rfl rfl ?_; intro r35 hr35
  have sbr35 : Sub r35 r25 := hr35 ▸ part_sub okr25 _ _
  refine doM_alloc (famB (id := 20) rfl) ze23 rfl rfl rfl rfl rfl ?_
  refine doM_nil ?_
  refine tail_heap rfl ?_
  refine tail_alloc 10 rfl ?_; intro b10_2
  refine tail_nil ?_
  refine doL_store 10 ty23 rfl rfl rfl rfl rfl rfl rfl rfl ?_
  refine doL_nil ?_
  refine post_then ?_
  refine doC_seq ?_
  refine doC_region ?_
  refine doL_alloc 11 ze34 rfl rfl rfl ?_; intro b11
  refine doL_nil ?_
  refine post_then ?_
  refine doC_seq ?_
  refine doC_seq ?_
  refine doC_region ?_
  refine doL_v (opV_assign rfl) rfl rfl rfl ?_
  refine doL_nil ?_
  refine post_then ?_
  refine doC_block ?_
  refine doC_rounds 4 ?_
  refine doR_succ ?_
  refine doC_seq ?_
  refine doC_seq ?_
  refine doC_region ?_
  refine doL_v (opV_move rfl) rfl rfl rfl ?_
  refine doL_v (opV_lss rfl rfl) rfl rfl rfl ?_
  refine doL_nil ?_
  refine post_then ?_
  refine doC_cond_t rfl (by decide) ?_
  refine doC_skip ?_
  refine post_then ?_
  refine doC_seq ?_
  refine doC_block ?_
  refine doC_keep (ks := [4, 5, 6, 7, 8, 9, 10, 11, 12]) rfl ?_
  refine doC_srcB 20 10 [5, 7] rfl mo (by kernel_rfl) ?_
  simp only [List.take_succ_cons, List.take_zero, List.drop_succ_cons, List.drop_zero]
  refine doM_v (fun _ => opV_move rfl) rfl rfl rfl rfl ?_
  refine doM_v (fun _ => opV_move rfl) rfl rfl rfl rfl ?_
  refine doM_v (fun _ => opV_indexAddr ar34 rfl rfl (by first | decide | omega) (by first | decide | omega)) rfl rfl rfl rfl ?_
  refine doM_v (fun _ => opV_loadA 9 ty23 rfl rfl rfl) rfl rfl rfl rfl ?_
  refine doM_v (fun _ => opV_move rfl) rfl rfl rfl rfl ?_
  refine doM_srcB (F := vI) 20 hm rfl en30 rfl (fun w' h => srcNext _ (by first | omega | assumption | (unfold In64; omega) | decide) w' h) rfl rfl rfl ?_; intro r45 hr45
  have br45 := srcR_b hr45 (by first | decide | omega)
  refine doM_v (fun _ => opV_move rfl) rfl rfl rfl rfl ?_
  refine doM_srcB (F := vI) 20 hm rfl en30 rfl (fun w' h => srcNext _ (by first | omega | assumption | (unfold In64; omega) | decide) w' h) rfl rfl rfl ?_; intro r47 hr47
  have br47 := srcR_b hr47 (by first | decide | omega)
  refine doM_vg (F := iv) (fun _ => opV_call en45 rfl (fun w _ => partC _ _ _ _ okr29.x w)) rfl rfl rfl rfl ?_; intro r48 hr48
  refine doM_v (fun _ => opV_indexAddr ar34 rfl rfl (by first | decide | omega) (by first | decide | omega)) rfl rfl rfl rfl ?_
  refine doM_nil ?_
  refine tail_heap rfl ?_
  refine tail_nil ?_
  refine doL_store 11 ty23 rfl rfl rfl rfl rfl rfl rfl rfl ?_
  refine doL_nil ?_
  refine post_block_normal ?_
  refine post_then ?_
  refine doC_region ?_
  refine doL_v (opV_move rfl) rfl rfl rfl ?_
  refine doL_v (opV_add rfl rfl (by first | exact i64_in ⟨by omega, by omega⟩ | rfl)) rfl rfl rfl ?_
  refine doL_v (opV_assign rfl) rfl rfl rfl ?_
  refine doL_nil ?_
  refine post_rounds ?_
  refine doR_succ ?_
  refine doC_seq ?_
  refine doC_seq ?_
  refine doC_region ?_
  refine doL_v (opV_move rfl) rfl rfl rfl ?_
  refine doL_v (opV_lss rfl rfl) rfl rfl rfl ?_
  refine doL_nil ?_
  refine post_then ?_
  refine doC_cond_t rfl (by decide) ?_
  refine doC_skip ?_
  refine post_then ?_
  refine doC_seq ?_
  refine doC_block ?_
  refine doC_keep (ks := [4, 5, 6, 7, 8, 9, 10, 11, 12]) rfl ?_
  refine doC_srcB 20 10 [5, 7] rfl mo (by kernel_rfl) ?_
  simp only [List.take_succ_cons, List.take_zero, List.drop_succ_cons, List.drop_zero]
  refine doM_v (fun _ => opV_move rfl) rfl rfl rfl rfl ?_
  refine doM_v (fun _ => opV_move rfl) rfl rfl rfl rfl ?_
  refine doM_v (fun _ => opV_indexAddr ar34 rfl rfl (by first | decide | omega) (by first | decide | omega)) rfl rfl rfl rfl ?_
  refine doM_v (fun _ => opV_loadA 9 ty23 rfl rfl rfl) rfl rfl rfl rfl ?_
  refine doM_v (fun _ => opV_move rfl) rfl rfl rfl rfl ?_
  refine doM_srcB (F := vI) 20 hm rfl en30 rfl (fun w' h => srcNext _ (by first | omega | assumption | (unfold In64; omega) | decide) w' h) rfl rfl rfl ?_; intro r45_2 hr45_2
  have br45_2 := srcR_b hr45_2 (by first | decide | omega)
  refine doM_v (fun _ => opV_move rfl) rfl rfl rfl rfl ?_
  refine doM_srcB (F := vI) 20 hm rfl en30 rfl (fun w' h => srcNext _ (by first | omega | assumption | (unfold In64; omega) | decide) w' h) rfl rfl rfl ?_; intro r47_2 hr47_2
  have br47_2 := srcR_b hr47_2 (by first | decide | omega)
  refine doM_vg (F := iv) (fun _ => opV_call en45 rfl (fun w _ => partC _ _ _ _ okr29.y w)) rfl rfl rfl rfl ?_; intro r48_2 hr48_2
  refine doM_v (fun _ => opV_indexAddr ar34 rfl rfl (by first | decide | omega) (by first | decide | omega)) rfl rfl rfl rfl ?_
  refine doM_nil ?_
  refine tail_heap rfl ?_
  refine tail_nil ?_
  refine doL_store 11 ty23 rfl rfl rfl rfl rfl rfl rfl rfl ?_
  refine doL_nil ?_
  refine post_block_normal ?_
  refine post_then ?_
  refine doC_region ?_
  refine doL_v (opV_move rfl) rfl rfl rfl ?_
  refine doL_v (opV_add rfl rfl (by first | exact i64_in ⟨by omega, by omega⟩ | rfl)) rfl rfl rfl ?_
  refine doL_v (opV_assign rfl) rfl rfl rfl ?_
  refine doL_nil ?_
  refine post_rounds ?_
  refine doR_succ ?_
  refine doC_seq ?_
  refine doC_seq ?_
  refine doC_region ?_
  refine doL_v (opV_move rfl) rfl rfl rfl ?_
  refine doL_v (opV_lss rfl rfl) rfl rfl rfl ?_
  refine doL_nil ?_
  refine post_then ?_
  refine doC_cond_t rfl (by decide) ?_
  refine doC_skip ?_
  refine post_then ?_
  refine doC_seq ?_
  refine doC_block ?_
  refine doC_keep (ks := [4, 5, 6, 7, 8, 9, 10, 11, 12]) rfl ?_
  refine doC_srcB 20 10 [5, 7] rfl mo (by kernel_rfl) ?_
  simp only [List.take_succ_cons, List.take_zero, List.drop_succ_cons, List.drop_zero]
  refine doM_v (fun _ => opV_move rfl) rfl rfl rfl rfl ?_
  refine doM_v (fun _ => opV_move rfl) rfl rfl rfl rfl ?_
  refine doM_v (fun _ => opV_indexAddr ar34 rfl rfl (by first | decide | omega) (by first | decide | omega)) rfl rfl rfl rfl ?_
  refine doM_v (fun _ => opV_loadA 9 ty23 rfl rfl rfl) rfl rfl rfl rfl ?_
  refine doM_v (fun _ => opV_move rfl) rfl rfl rfl rfl ?_
  refine doM_srcB (F := vI) 20 hm rfl en30 rfl (fun w' h => srcNext _ (by first | omega | assumption | (unfold In64; omega) | decide) w' h) rfl rfl rfl ?_; intro r45_3 hr45_3
  have br45_3 := srcR_b hr45_3 (by first | decide | omega)
  refine doM_v (fun _ => opV_move rfl) rfl rfl rfl rfl ?_
  refine doM_srcB (F := vI) 20 hm rfl en30 rfl (fun w' h => srcNext _ (by first | omega | assumption | (unfold In64; omega) | decide) w' h) rfl rfl rfl ?_; intro r47_3 hr47_3
  have br47_3 := srcR_b hr47_3 (by first | decide | omega)
  refine doM_vg (F := iv) (fun _ => opV_call en45 rfl (fun w _ => partC _ _ _ _ okr29.z w)) rfl rfl rfl rfl ?_; intro r48_3 hr48_3
  refine doM_v (fun _ => opV_indexAddr ar34 rfl rfl (by first | decide | omega) (by first | decide | omega)) rfl rfl rfl rfl ?_
  refine doM_nil ?_
  refine tail_heap rfl ?_
  refine tail_nil ?_
  refine doL_store 11 ty23 rfl rfl rfl rfl rfl rfl rfl rfl ?_
  refine doL_nil ?_
  refine post_block_normal ?_
  refine post_then ?_
  refine doC_region ?_
  refine doL_v (opV_move rfl) rfl rfl rfl ?_
  refine doL_v (opV_add rfl rfl (by first | exact i64_in ⟨by omega, by omega⟩ | rfl)) rfl rfl rfl ?_
  refine doL_v (opV_assign rfl) rfl rfl rfl ?_
  refine doL_nil ?_
  refine post_rounds ?_
  refine doR_succ ?_
  refine doC_seq ?_
  refine doC_seq ?_
  refine doC_region ?_
  refine doL_v (opV_move rfl) rfl rfl rfl ?_
  refine doL_v (opV_lss rfl rfl) rfl rfl rfl ?_
  refine doL_nil ?_
  refine post_then ?_
  refine doC_cond_f rfl (by decide) ?_
  refine doC_exit ?_
  refine post_then_exit ?_
  refine post_then_exit ?_
  refine post_block_exit ?_
  refine post_then ?_
  refine doC_seq ?_
  have su : VSub (⟨r48, r48_2, r48_3⟩ : V3) r29 := ⟨hr48 ▸ part_sub okr29.x _ _, hr48_2 ▸ part_sub okr29.y _ _, hr48_3 ▸ part_sub okr29.z _ _⟩
  refine doC_drawn 8 mo (by kernel_rfl) ?_
  simp only [List.take_succ_cons, List.take_zero, List.drop_succ_cons, List.drop_zero]
  refine doG_v (opV_move rfl) rfl rfl rfl ?_
  refine doG_v (opV_loadA 10 ty23 rfl rfl rfl) rfl rfl rfl ?_
  refine doG_vg (F := m3) (opV_call en24 rfl (fun w _ => mTurn _ _ _  w)) rfl rfl rfl ?_; intro r52 hr52
  refine doG_v (opV_move rfl) rfl rfl rfl ?_
  refine doG_v (opV_loadA 7 ty23 rfl rfl rfl) rfl rfl rfl ?_
  refine doG_vg (F := m3) (opV_call en24 rfl (fun w _ => mTurn _ _ _  w)) rfl rfl rfl ?_; intro r55 hr55
  refine doG_alloc ze28 rfl rfl rfl rfl ?_
  refine doG_alloc ze28 rfl rfl rfl rfl ?_
  refine doG_nil ?_
  refine tail_alloc 14 rfl ?_; intro b14_2
  refine tail_alloc 13 rfl ?_; intro b13_2
  refine tail_nil ?_
  refine doL_store 13 ty28 rfl rfl rfl rfl rfl rfl rfl rfl ?_
  refine doL_store 14 ty28 rfl rfl rfl rfl rfl rfl rfl rfl ?_
  refine doL_nil ?_
  refine post_then ?_
  refine doC_seq ?_
  have sx : MSub r52 r55 := by
    have e52 : r52 = M3.turn r27 r35 := hr52
    have e55 : r55 = M3.turn r27 r25 := hr55
    rw [e52, e55]; exact sub_turn br27 sbr35
  have vq := VSub.refl okr29
  refine doC_srcLB 18 5 2 [1] rfl mo (by kernel_rfl) rfl ?_
  simp only [List.take_succ_cons, List.take_zero, List.drop_succ_cons, List.drop_zero]
  refine doM_v (fun _ => opV_move rfl) rfl rfl rfl rfl ?_
  refine doM_srcB (F := m3) 18 hl rfl en37 rfl (fun w' h => mkTurn   w' h) rfl rfl rfl ?_; intro r57 hr57
  refine doM_v (fun _ => opV_loadA 9 ty34 rfl rfl rfl) rfl rfl rfl rfl ?_
  refine doM_alloc (famB (id := 18) rfl) ze28 rfl rfl rfl rfl rfl ?_
  refine doM_alloc (famB (id := 18) rfl) ze34 rfl rfl rfl rfl rfl ?_
  refine doM_nil ?_
  refine late_heap rfl ?_
  refine late_tail rfl rfl rfl rfl rfl ?_ ?_
  ·
    simp only [List.drop_succ_cons, List.drop_zero]
    refine tail_alloc 16 rfl ?_; intro b16_2
    refine tail_alloc 15 rfl ?_; intro b15_2
    refine tail_nil ?_
    refine doL_store 15 ty28 rfl rfl rfl rfl rfl rfl rfl rfl ?_
    refine doL_store 16 ty34 rfl rfl rfl rfl rfl rfl rfl rfl ?_
    refine doL_nil ?_
    refine post_then ?_
    refine doC_seq ?_
    have mp : MSub r57 r57 := MSub.refl (hr57 ▸ turnOf_Ok _ _)
    refine doC_drawn 51 mo (by kernel_rfl) ?_
    simp only [List.take_succ_cons, List.take_zero, List.drop_succ_cons, List.drop_zero]
    refine doG_vg (F := vB) (opV_call en23 rfl (fun w _ => awake4   w)) rfl rfl rfl ?_; intro r59 hr59
    obtain rfl : r59 = true := hr59
    refine doG_v (opV_move rfl) rfl rfl rfl ?_
    refine doG_v (opV_loadA 13 ty28 rfl rfl rfl) rfl rfl rfl ?_
    refine doG_v (opV_loadA 14 ty28 rfl rfl rfl) rfl rfl rfl ?_
    refine doG_vg (F := vB) (opV_call en40 rfl (fun w _ => mWithinMat _ _ _ _ _ _ _ _ _ _ _ _ _ _ _ _ _ _ _ _ _ _ _ _ _ _ _ _ _ _ _ _ _ _ _ _  w)) rfl rfl rfl ?_; intro r63 hr63
    obtain rfl : r63 = true := (hr63 : r63 = M3.within r52 r55).trans sx.within
    refine doG_v (opV_pick_t rfl rfl rfl rfl) rfl rfl rfl ?_
    refine doG_v (opV_move rfl) rfl rfl rfl ?_
    refine doG_v (opV_loadA 13 ty28 rfl rfl rfl) rfl rfl rfl ?_
    refine doG_v (opV_loadA 11 ty34 rfl rfl rfl) rfl rfl rfl ?_
    refine doG_vg (F := v3) (opV_call en29 rfl (fun w _ => mApply _ _ _ _ _ _ _ _ _ _ _ _ _ _ _ _ _ _ _ _ _ _ _ _  w)) rfl rfl rfl ?_; intro r68 hr68
    refine doG_v (opV_loadA 14 ty28 rfl rfl rfl) rfl rfl rfl ?_
    refine doG_v (opV_loadA 9 ty34 rfl rfl rfl) rfl rfl rfl ?_
    refine doG_vg (F := v3) (opV_call en29 rfl (fun w _ => mApply _ _ _ _ _ _ _ _ _ _ _ _ _ _ _ _ _ _ _ _ _ _ _ _  w)) rfl rfl rfl ?_; intro r71 hr71
    refine doG_vg (F := vB) (opV_call en46 rfl (fun w _ => mWithin _ _ _ _ _ _ _ _ _ _ _ _  w)) rfl rfl rfl ?_; intro r72 hr72
    obtain rfl : r72 = true := (by have e68 : r68 = M3.apply r52 (⟨r48, r48_2, r48_3⟩ : V3) := hr68; have e71 : r71 = M3.apply r55 r29 := hr71; have e72 : r72 = V3.within r68 r71 := hr72; rw [e72, e68, e71]; exact (sub_apply sx su).within)
    refine doG_v (opV_pick_t rfl rfl rfl rfl) rfl rfl rfl ?_
    refine doG_v (opV_move rfl) rfl rfl rfl ?_
    refine doG_v (opV_loadA 13 ty28 rfl rfl rfl) rfl rfl rfl ?_
    refine doG_v (opV_loadA 15 ty28 rfl rfl rfl) rfl rfl rfl ?_
    refine doG_vg (F := m3) (opV_call en34 rfl (fun w _ => mCompose _ _ _ _ _ _ _ _ _ _ _ _ _ _ _ _ _ _ _ _ _ _ _ _ _ _ _ _ _ _ _ _ _ _ _ _  w)) rfl rfl rfl ?_; intro r77 hr77
    refine doG_v (opV_loadA 14 ty28 rfl rfl rfl) rfl rfl rfl ?_
    refine doG_v (opV_loadA 15 ty28 rfl rfl rfl) rfl rfl rfl ?_
    refine doG_vg (F := m3) (opV_call en34 rfl (fun w _ => mCompose _ _ _ _ _ _ _ _ _ _ _ _ _ _ _ _ _ _ _ _ _ _ _ _ _ _ _ _ _ _ _ _ _ _ _ _  w)) rfl rfl rfl ?_; intro r80 hr80
    refine doG_vg (F := vB) (opV_call en40 rfl (fun w _ => mWithinMat _ _ _ _ _ _ _ _ _ _ _ _ _ _ _ _ _ _ _ _ _ _ _ _ _ _ _ _ _ _ _ _ _ _ _ _  w)) rfl rfl rfl ?_; intro r81 hr81
    obtain rfl : r81 = true := (by have e77 : r77 = M3.mul r52 r57 := hr77; have e80 : r80 = M3.mul r55 r57 := hr80; have e81 : r81 = M3.within r77 r80 := hr81; rw [e81, e77, e80]; exact (sub_Mmul sx mp).within)
    refine doG_v (opV_pick_t rfl rfl rfl rfl) rfl rfl rfl ?_
    refine doG_v (opV_move rfl) rfl rfl rfl ?_
    refine doG_v (opV_loadA 15 ty28 rfl rfl rfl) rfl rfl rfl ?_
    refine doG_v (opV_loadA 13 ty28 rfl rfl rfl) rfl rfl rfl ?_
    refine doG_vg (F := m3) (opV_call en34 rfl (fun w _ => mCompose _ _ _ _ _ _ _ _ _ _ _ _ _ _ _ _ _ _ _ _ _ _ _ _ _ _ _ _ _ _ _ _ _ _ _ _  w)) rfl rfl rfl ?_; intro r86 hr86
    refine doG_v (opV_loadA 15 ty28 rfl rfl rfl) rfl rfl rfl ?_
    refine doG_v (opV_loadA 14 ty28 rfl rfl rfl) rfl rfl rfl ?_
    refine doG_vg (F := m3) (opV_call en34 rfl (fun w _ => mCompose _ _ _ _ _ _ _ _ _ _ _ _ _ _ _ _ _ _ _ _ _ _ _ _ _ _ _ _ _ _ _ _ _ _ _ _  w)) rfl rfl rfl ?_; intro r89 hr89
    refine doG_vg (F := vB) (opV_call en40 rfl (fun w _ => mWithinMat _ _ _ _ _ _ _ _ _ _ _ _ _ _ _ _ _ _ _ _ _ _ _ _ _ _ _ _ _ _ _ _ _ _ _ _  w)) rfl rfl rfl ?_; intro r90 hr90
    obtain rfl : r90 = true := (by have e86 : r86 = M3.mul r57 r52 := hr86; have e89 : r89 = M3.mul r57 r55 := hr89; have e90 : r90 = M3.within r86 r89 := hr90; rw [e90, e86, e89]; exact (sub_Mmul mp sx).within)
    refine doG_v (opV_pick_t rfl rfl rfl rfl) rfl rfl rfl ?_
    refine doG_v (opV_move rfl) rfl rfl rfl ?_
    refine doG_v (opV_loadA 11 ty34 rfl rfl rfl) rfl rfl rfl ?_
    refine doG_v (opV_loadA 16 ty34 rfl rfl rfl) rfl rfl rfl ?_
    refine doG_vg (F := v3) (opV_call en47 rfl (fun w _ => mAdd _ _ _ _ _ _ _ _ _ _ _ _  w)) rfl rfl rfl ?_; intro r95 hr95
    refine doG_v (opV_loadA 9 ty34 rfl rfl rfl) rfl rfl rfl ?_
    refine doG_v (opV_loadA 16 ty34 rfl rfl rfl) rfl rfl rfl ?_
    refine doG_vg (F := v3) (opV_call en47 rfl (fun w _ => mAdd _ _ _ _ _ _ _ _ _ _ _ _  w)) rfl rfl rfl ?_; intro r98 hr98
    refine doG_vg (F := vB) (opV_call en46 rfl (fun w _ => mWithin _ _ _ _ _ _ _ _ _ _ _ _  w)) rfl rfl rfl ?_; intro r99 hr99
    obtain rfl : r99 = true := (by have e95 : r95 = V3.add (⟨r48, r48_2, r48_3⟩ : V3) r29 := hr95; have e98 : r98 = V3.add r29 r29 := hr98; have e99 : r99 = V3.within r95 r98 := hr99; rw [e99, e95, e98]; exact (sub_Vadd su vq).within)
    refine doG_v (opV_pick_t rfl rfl rfl rfl) rfl rfl rfl ?_
    refine doG_v (opV_move rfl) rfl rfl rfl ?_
    refine doG_v (opV_loadA 16 ty34 rfl rfl rfl) rfl rfl rfl ?_
    refine doG_v (opV_loadA 11 ty34 rfl rfl rfl) rfl rfl rfl ?_
    refine doG_vg (F := v3) (opV_call en48 rfl (fun w _ => mSub _ _ _ _ _ _ _ _ _ _ _ _  w)) rfl rfl rfl ?_; intro r104 hr104
    refine doG_v (opV_loadA 16 ty34 rfl rfl rfl) rfl rfl rfl ?_
    refine doG_v (opV_loadA 9 ty34 rfl rfl rfl) rfl rfl rfl ?_
    refine doG_vg (F := v3) (opV_call en48 rfl (fun w _ => mSub _ _ _ _ _ _ _ _ _ _ _ _  w)) rfl rfl rfl ?_; intro r107 hr107
    refine doG_vg (F := vB) (opV_call en46 rfl (fun w _ => mWithin _ _ _ _ _ _ _ _ _ _ _ _  w)) rfl rfl rfl ?_; intro r108 hr108
    refine doG_v (opV_pick_t rfl rfl rfl rfl) rfl rfl rfl ?_
    refine doG_nil ?_
    refine tail_nil ?_
    refine doL_v (opV_assign rfl) rfl rfl rfl ?_
    refine doL_nil ?_
    refine post_then ?_
    refine doC_ret ?_
    refine post_rets (rs := [.tmp 4]) rfl (resC (resIs_tmp rfl) (resN)) (congrArg (vB) (?_ : _ = true))
    have e104 : r104 = V3.sub r29 (⟨r48, r48_2, r48_3⟩ : V3) := hr104; have e107 : r107 = V3.sub r29 r29 := hr107; have e108 : r108 = V3.within r104 r107 := hr108; rw [e108, e104, e107]; exact (sub_Vsub vq su).within
  ·
    simp only [List.drop_succ_cons, List.drop_zero]
    refine tail_alloc 16 rfl ?_; intro b16_2
    refine tail_alloc 15 rfl ?_; intro b15_2
    refine tail_nil ?_
    refine doL_store 15 ty28 rfl rfl rfl rfl rfl rfl rfl rfl ?_
    refine doL_v (opV_loadA 9 ty34 rfl rfl rfl) rfl rfl rfl ?_
    refine doL_store 16 ty34 rfl rfl rfl rfl rfl rfl rfl rfl ?_
    refine doL_nil ?_
    refine post_then ?_
    refine doC_seq ?_
    have mp : MSub r57 r57 := MSub.refl (hr57 ▸ turnOf_Ok _ _)
    refine doC_drawn 51 mo (by kernel_rfl) ?_
    simp only [List.take_succ_cons, List.take_zero, List.drop_succ_cons, List.drop_zero]
    refine doG_vg (F := vB) (opV_call en23 rfl (fun w _ => awake4   w)) rfl rfl rfl ?_; intro r59 hr59
    obtain rfl : r59 = true := hr59
    refine doG_v (opV_move rfl) rfl rfl rfl ?_
    refine doG_v (opV_loadA 13 ty28 rfl rfl rfl) rfl rfl rfl ?_
    refine doG_v (opV_loadA 14 ty28 rfl rfl rfl) rfl rfl rfl ?_
    refine doG_vg (F := vB) (opV_call en40 rfl (fun w _ => mWithinMat _ _ _ _ _ _ _ _ _ _ _ _ _ _ _ _ _ _ _ _ _ _ _ _ _ _ _ _ _ _ _ _ _ _ _ _  w)) rfl rfl rfl ?_; intro r63 hr63
    obtain rfl : r63 = true := (hr63 : r63 = M3.within r52 r55).trans sx.within
    refine doG_v (opV_pick_t rfl rfl rfl rfl) rfl rfl rfl ?_
    refine doG_v (opV_move rfl) rfl rfl rfl ?_
    refine doG_v (opV_loadA 13 ty28 rfl rfl rfl) rfl rfl rfl ?_
    refine doG_v (opV_loadA 11 ty34 rfl rfl rfl) rfl rfl rfl ?_
    refine doG_vg (F := v3) (opV_call en29 rfl (fun w _ => mApply _ _ _ _ _ _ _ _ _ _ _ _ _ _ _ _ _ _ _ _ _ _ _ _  w)) rfl rfl rfl ?_; intro r68 hr68
    refine doG_v (opV_loadA 14 ty28 rfl rfl rfl) rfl rfl rfl ?_
    refine doG_v (opV_loadA 9 ty34 rfl rfl rfl) rfl rfl rfl ?_
    refine doG_vg (F := v3) (opV_call en29 rfl (fun w _ => mApply _ _ _ _ _ _ _ _ _ _ _ _ _ _ _ _ _ _ _ _ _ _ _ _  w)) rfl rfl rfl ?_; intro r71 hr71
    refine doG_vg (F := vB) (opV_call en46 rfl (fun w _ => mWithin _ _ _ _ _ _ _ _ _ _ _ _  w)) rfl rfl rfl ?_; intro r72 hr72
    obtain rfl : r72 = true := (by have e68 : r68 = M3.apply r52 (⟨r48, r48_2, r48_3⟩ : V3) := hr68; have e71 : r71 = M3.apply r55 r29 := hr71; have e72 : r72 = V3.within r68 r71 := hr72; rw [e72, e68, e71]; exact (sub_apply sx su).within)
    refine doG_v (opV_pick_t rfl rfl rfl rfl) rfl rfl rfl ?_
    refine doG_v (opV_move rfl) rfl rfl rfl ?_
    refine doG_v (opV_loadA 13 ty28 rfl rfl rfl) rfl rfl rfl ?_
    refine doG_v (opV_loadA 15 ty28 rfl rfl rfl) rfl rfl rfl ?_
    refine doG_vg (F := m3) (opV_call en34 rfl (fun w _ => mCompose _ _ _ _ _ _ _ _ _ _ _ _ _ _ _ _ _ _ _ _ _ _ _ _ _ _ _ _ _ _ _ _ _ _ _ _  w)) rfl rfl rfl ?_; intro r77 hr77
    refine doG_v (opV_loadA 14 ty28 rfl rfl rfl) rfl rfl rfl ?_
    refine doG_v (opV_loadA 15 ty28 rfl rfl rfl) rfl rfl rfl ?_
    refine doG_vg (F := m3) (opV_call en34 rfl (fun w _ => mCompose _ _ _ _ _ _ _ _ _ _ _ _ _ _ _ _ _ _ _ _ _ _ _ _ _ _ _ _ _ _ _ _ _ _ _ _  w)) rfl rfl rfl ?_; intro r80 hr80
    refine doG_vg (F := vB) (opV_call en40 rfl (fun w _ => mWithinMat _ _ _ _ _ _ _ _ _ _ _ _ _ _ _ _ _ _ _ _ _ _ _ _ _ _ _ _ _ _ _ _ _ _ _ _  w)) rfl rfl rfl ?_; intro r81 hr81
    obtain rfl : r81 = true := (by have e77 : r77 = M3.mul r52 r57 := hr77; have e80 : r80 = M3.mul r55 r57 := hr80; have e81 : r81 = M3.within r77 r80 := hr81; rw [e81, e77, e80]; exact (sub_Mmul sx mp).within)
    refine doG_v (opV_pick_t rfl rfl rfl rfl) rfl rfl rfl ?_
    refine doG_v (opV_move rfl) rfl rfl rfl ?_
    refine doG_v (opV_loadA 15 ty28 rfl rfl rfl) rfl rfl rfl ?_
    refine doG_v (opV_loadA 13 ty28 rfl rfl rfl) rfl rfl rfl ?_
    refine doG_vg (F := m3) (opV_call en34 rfl (fun w _ => mCompose _ _ _ _ _ _ _ _ _ _ _ _ _ _ _ _ _ _ _ _ _ _ _ _ _ _ _ _ _ _ _ _ _ _ _ _  w)) rfl rfl rfl ?_; intro r86 hr86
    refine doG_v (opV_loadA 15 ty28 rfl rfl rfl) rfl rfl rfl ?_
    refine doG_v (opV_loadA 14 ty28 rfl rfl rfl) rfl rfl rfl ?_
    refine doG_vg (F := m3) (opV_call en34 rfl (fun w _ => mCompose _ _ _ _ _ _ _ _ _ _ _ _ _ _ _ _ _ _ _ _ _ _ _ _ _ _ _ _ _ _ _ _ _ _ _ _  w)) rfl rfl rfl ?_; intro r89 hr89
    refine doG_vg (F := vB) (opV_call en40 rfl (fun w _ => mWithinMat _ _ _ _ _ _ _ _ _ _ _ _ _ _ _ _ _ _ _ _ _ _ _ _ _ _ _ _ _ _ _ _ _ _ _ _  w)) rfl rfl rfl ?_; intro r90 hr90
    obtain rfl : r90 = true := (by have e86 : r86 = M3.mul r57 r52 := hr86; have e89 : r89 = M3.mul r57 r55 := hr89; have e90 : r90 = M3.within r86 r89 := hr90; rw [e90, e86, e89]; exact (sub_Mmul mp sx).within)
    refine doG_v (opV_pick_t rfl rfl rfl rfl) rfl rfl rfl ?_
    refine doG_v (opV_move rfl) rfl rfl rfl ?_
    refine doG_v (opV_loadA 11 ty34 rfl rfl rfl) rfl rfl rfl ?_
    refine doG_v (opV_loadA 16 ty34 rfl rfl rfl) rfl rfl rfl ?_
    refine doG_vg (F := v3) (opV_call en47 rfl (fun w _ => mAdd _ _ _ _ _ _ _ _ _ _ _ _  w)) rfl rfl rfl ?_; intro r95 hr95
    refine doG_v (opV_loadA 9 ty34 rfl rfl rfl) rfl rfl rfl ?_
    refine doG_v (opV_loadA 16 ty34 rfl rfl rfl) rfl rfl rfl ?_
    refine doG_vg (F := v3) (opV_call en47 rfl (fun w _ => mAdd _ _ _ _ _ _ _ _ _ _ _ _  w)) rfl rfl rfl ?_; intro r98 hr98
    refine doG_vg (F := vB) (opV_call en46 rfl (fun w _ => mWithin _ _ _ _ _ _ _ _ _ _ _ _  w)) rfl rfl rfl ?_; intro r99 hr99
    obtain rfl : r99 = true := (by have e95 : r95 = V3.add (⟨r48, r48_2, r48_3⟩ : V3) r29 := hr95; have e98 : r98 = V3.add r29 r29 := hr98; have e99 : r99 = V3.within r95 r98 := hr99; rw [e99, e95, e98]; exact (sub_Vadd su vq).within)
    refine doG_v (opV_pick_t rfl rfl rfl rfl) rfl rfl rfl ?_
    refine doG_v (opV_move rfl) rfl rfl rfl ?_
    refine doG_v (opV_loadA 16 ty34 rfl rfl rfl) rfl rfl rfl ?_
    refine doG_v (opV_loadA 11 ty34 rfl rfl rfl) rfl rfl rfl ?_
    refine doG_vg (F := v3) (opV_call en48 rfl (fun w _ => mSub _ _ _ _ _ _ _ _ _ _ _ _  w)) rfl rfl rfl ?_; intro r104 hr104
    refine doG_v (opV_loadA 16 ty34 rfl rfl rfl) rfl rfl rfl ?_
    refine doG_v (opV_loadA 9 ty34 rfl rfl rfl) rfl rfl rfl ?_
    refine doG_vg (F := v3) (opV_call en48 rfl (fun w _ => mSub _ _ _ _ _ _ _ _ _ _ _ _  w)) rfl rfl rfl ?_; intro r107 hr107
    refine doG_vg (F := vB) (opV_call en46 rfl (fun w _ => mWithin _ _ _ _ _ _ _ _ _ _ _ _  w)) rfl rfl rfl ?_; intro r108 hr108
    refine doG_v (opV_pick_t rfl rfl rfl rfl) rfl rfl rfl ?_
    refine doG_nil ?_
    refine tail_nil ?_
    refine doL_v (opV_assign rfl) rfl rfl rfl ?_
    refine doL_nil ?_
    refine post_then ?_
    refine doC_ret ?_
    refine post_rets (rs := [.tmp 4]) rfl (resC (resIs_tmp rfl) (resN)) (congrArg (vB) (?_ : _ = true))
    have e104 : r104 = V3.sub r29 (⟨r48, r48_2, r48_3⟩ : V3) := hr104; have e107 : r107 = V3.sub r29 r29 := hr107; have e108 : r108 = V3.within r104 r107 := hr108; rw [e108, e104, e107]; exact (sub_Vsub vq su).within

end Go.Proofs.Ytonampcmhhhffaa

/- The walk of PoseMonotone. No condition. -/
import Derived.Test.YtonampcmhhhffaaProg
import Derived.Test.YtonampcmhhhffaaPoseLaw2
import Derived.Test.YtonampcmhhhffaaSxLate
import Derived.Test.YtonampcmhhhffaaA1
import Derived.Test.YtonampcmhhhffaaA2
import Derived.Test.YtonampcmhhhffaaM1
import Derived.Test.YtonampcmhhhffaaM2
import Derived.Test.YtonampcmhhhffaaSrc
import Derived.Test.YtonampcmhhhffaaPt
import Derived.Test.YtonampcmhhhffaaP1
import Derived.Test.YtonampcmhhhffaaP2
import Derived.Test.YtonampcmhhhffaaQ1
namespace Go.Proofs.Ytonampcmhhhffaa
open Go.Sx
theorem en45 : Enters Try.prog 45 := enters_of Try.func45 (by kernel_rfl) (by kernel_rfl)

set_option maxRecDepth 100000 in
theorem wPMonotone (lv : Value) (l : List Int) (mv : Value) (m : List Int) (w : World) (hl : IntsAt w w.heap.size lv l) (hm : IntsAt w w.heap.size mv m) : Calls Try.prog 17 [lv, mv].toArray w (Rets (vB (true)) (w)) := by
  refine calls_of_doC (n := 98) Try.func17 rfl rfl rfl ?_
  refine doC_seq ?_
  refine doC_region ?_
  refine doL_v (opV_assign rfl) rfl rfl rfl ?_
  refine doL_nil ?_
  refine post_then ?_
  refine doC_seq ?_
  refine doC_region ?_
  refine doL_v (opV_move rfl) rfl rfl rfl ?_
  refine doL_callNew 13 en26 rfl (fun w' k => mFrom w' (intsAt_grow hl k.grow (Nat.le_refl _))) rfl rfl ?_; intro b13
  refine doL_v (opV_move rfl) rfl rfl rfl ?_
  refine doL_callNew 15 en26 rfl (fun w' k => mFrom w' (intsAt_grow hm k.grow (Nat.le_refl _))) rfl rfl ?_; intro b15
  refine doL_v (opV_assign rfl) rfl rfl rfl ?_
  refine doL_v (opV_assign rfl) rfl rfl rfl ?_
  refine doL_nil ?_
  refine post_then ?_
  refine doC_seq ?_
  refine doC_region ?_
  refine doL_v (opV_move rfl) rfl rfl rfl ?_
  refine doL_srcB (F := po) 13 hl rfl en49 rfl (fun w' h => motionC _  w' h) rfl rfl rfl ?_; intro r17 hr17
  have mr17 : ∃ s T X z, Mot r17 s T X z := hr17 ▸ motion_Mot _ _ _
  obtain ⟨sr17, Tr17, Xr17, zr17, mr17⟩ := mr17
  have kr17 := mr17.plm
  refine doL_v (opV_move rfl) rfl rfl rfl ?_
  refine doL_srcB (F := po) 13 hl rfl en49 rfl (fun w' h => motionC _  w' h) rfl rfl rfl ?_; intro r19 hr19
  have mr19 : ∃ s T X z, Mot r19 s T X z := hr19 ▸ motion_Mot _ _ _
  obtain ⟨sr19, Tr19, Xr19, zr19, mr19⟩ := mr19
  have kr19 := mr19.plm
  refine doL_alloc 7 ze63 rfl rfl rfl ?_; intro b7
  refine doL_alloc 8 ze63 rfl rfl rfl ?_; intro b8
  refine doL_store 7 ty63 rfl rfl rfl rfl rfl rfl rfl rfl ?_
  refine doL_store 8 ty63 rfl rfl rfl rfl rfl rfl rfl rfl ?_
  refine doL_nil ?_
  refine post_then ?_
  refine doC_seq ?_
  refine doC_region ?_
  refine doL_alloc 9 ze63 rfl rfl rfl ?_; intro b9
  refine doL_nil ?_
  refine post_then ?_
  refine doC_seq ?_
  refine doC_seq ?_
  refine doC_region ?_
  refine doL_v (opV_assign rfl) rfl rfl rfl ?_
  refine doL_nil ?_
  refine post_then ?_
  refine doC_block ?_
  refine doC_rounds 4 ?_
  refine doR_succ ?_
  refine doC_seq ?_
  refine doC_seq ?_
  refine doC_region ?_
  refine doL_v (opV_move rfl) rfl rfl rfl ?_
  refine doL_v (opV_lss rfl rfl) rfl rfl rfl ?_
  refine doL_nil ?_
  refine post_then ?_
  refine doC_cond_t rfl (by decide) ?_
  refine doC_skip ?_
  refine post_then ?_
  refine doC_seq ?_
  refine doC_block ?_
  refine doC_seq ?_
  refine doC_keep (ks := [4, 6, 7, 8, 9, 10]) rfl ?_
  refine doC_srcB 15 12 [6, 8] rfl mo (by kernel_rfl) ?_
  simp only [List.take_succ_cons, List.take_zero, List.drop_succ_cons, List.drop_zero]
  refine doM_v (fun _ => opV_move rfl) rfl rfl rfl rfl ?_
  refine doM_v (fun _ => opV_move rfl) rfl rfl rfl rfl ?_
  refine doM_v (fun _ => opV_fieldAddr fa63_1 rfl) rfl rfl rfl rfl ?_
  refine doM_v (fun _ => opV_indexAddr ar34 rfl rfl (by first | decide | omega) (by first | decide | omega)) rfl rfl rfl rfl ?_
  refine doM_v (fun _ => opV_loadA 7 ty23 rfl rfl rfl) rfl rfl rfl rfl ?_
  refine doM_v (fun _ => opV_move rfl) rfl rfl rfl rfl ?_
  refine doM_srcB (F := vI) 15 hm rfl en30 rfl (fun w' h => srcNext _ (by first | omega | assumption | (unfold In64; omega) | decide) w' h) rfl rfl rfl ?_; intro r30 hr30
  have br30 := srcR_b hr30 (by first | decide | omega)
  refine doM_v (fun _ => opV_move rfl) rfl rfl rfl rfl ?_
  refine doM_srcB (F := vI) 15 hm rfl en30 rfl (fun w' h => srcNext _ (by first | omega | assumption | (unfold In64; omega) | decide) w' h) rfl rfl rfl ?_; intro r32 hr32
  have br32 := srcR_b hr32 (by first | decide | omega)
  refine doM_vg (F := iv) (fun _ => opV_call en45 rfl (fun w _ => partC _ _ _ _ kr17.t.x w)) rfl rfl rfl rfl ?_; intro r33 hr33
  refine doM_v (fun _ => opV_fieldAddr fa63_1 rfl) rfl rfl rfl rfl ?_
  refine doM_v (fun _ => opV_indexAddr ar34 rfl rfl (by first | decide | omega) (by first | decide | omega)) rfl rfl rfl rfl ?_
  refine doM_nil ?_
  refine tail_heap rfl ?_
  refine tail_nil ?_
  refine doL_store 9 ty23 rfl rfl rfl rfl rfl rfl rfl rfl ?_
  refine doL_nil ?_
  refine post_then ?_
  refine doC_seq ?_
  refine doC_region ?_
  refine doL_v (opV_assign rfl) rfl rfl rfl ?_
  refine doL_nil ?_
  refine post_then ?_
  refine doC_block ?_
  refine doC_rounds 4 ?_
  refine doR_succ ?_
  refine doC_seq ?_
  refine doC_seq ?_
  refine doC_region ?_
  refine doL_v (opV_move rfl) rfl rfl rfl ?_
  refine doL_v (opV_lss rfl rfl) rfl rfl rfl ?_
  refine doL_nil ?_
  refine post_then ?_
  refine doC_cond_t rfl (by decide) ?_
  refine doC_skip ?_
  refine post_then ?_
  refine doC_seq ?_
  refine doC_block ?_
  refine doC_keep (ks := [4, 6, 7, 8, 9, 10, 11]) rfl ?_
  refine doC_srcB 15 16 [9, 11] rfl mo (by kernel_rfl) ?_
  simp only [List.take_succ_cons, List.take_zero, List.drop_succ_cons, List.drop_zero]
  refine doM_v (fun _ => opV_move rfl) rfl rfl rfl rfl ?_
  refine doM_v (fun _ => opV_move rfl) rfl rfl rfl rfl ?_
  refine doM_v (fun _ => opV_move rfl) rfl rfl rfl rfl ?_
  refine doM_v (fun _ => opV_move rfl) rfl rfl rfl rfl ?_
  refine doM_v (fun _ => opV_fieldAddr fa63_0 rfl) rfl rfl rfl rfl ?_
  refine doM_v (fun _ => opV_indexAddr ar28 rfl rfl (by first | decide | omega) (by first | decide | omega)) rfl rfl rfl rfl ?_
  refine doM_v (fun _ => opV_indexAddr ar26 rfl rfl (by first | decide | omega) (by first | decide | omega)) rfl rfl rfl rfl ?_
  refine doM_v (fun _ => opV_loadA 7 ty23 rfl rfl rfl) rfl rfl rfl rfl ?_
  refine doM_v (fun _ => opV_move rfl) rfl rfl rfl rfl ?_
  refine doM_srcB (F := vI) 15 hm rfl en30 rfl (fun w' h => srcNext _ (by first | omega | assumption | (unfold In64; omega) | decide) w' h) rfl rfl rfl ?_; intro r49 hr49
  have br49 := srcR_b hr49 (by first | decide | omega)
  refine doM_v (fun _ => opV_move rfl) rfl rfl rfl rfl ?_
  refine doM_srcB (F := vI) 15 hm rfl en30 rfl (fun w' h => srcNext _ (by first | omega | assumption | (unfold In64; omega) | decide) w' h) rfl rfl rfl ?_; intro r51 hr51
  have br51 := srcR_b hr51 (by first | decide | omega)
  refine doM_vg (F := iv) (fun _ => opV_call en45 rfl (fun w _ => partC _ _ _ _ kr17.r.x.x.ok w)) rfl rfl rfl rfl ?_; intro r52 hr52
  refine doM_v (fun _ => opV_fieldAddr fa63_0 rfl) rfl rfl rfl rfl ?_
  refine doM_v (fun _ => opV_indexAddr ar28 rfl rfl (by first | decide | omega) (by first | decide | omega)) rfl rfl rfl rfl ?_
  refine doM_v (fun _ => opV_indexAddr ar26 rfl rfl (by first | decide | omega) (by first | decide | omega)) rfl rfl rfl rfl ?_
  refine doM_nil ?_
  refine tail_heap rfl ?_
  refine tail_nil ?_
  refine doL_store 9 ty23 rfl rfl rfl rfl rfl rfl rfl rfl ?_
  refine doL_nil ?_
  refine post_block_normal ?_
  refine post_then ?_
  refine doC_region ?_
  refine doL_v (opV_move rfl) rfl rfl rfl ?_
  refine doL_v (opV_add rfl rfl (by first | exact i64_in ⟨by omega, by omega⟩ | rfl)) rfl rfl rfl ?_
  refine doL_v (opV_assign rfl) rfl rfl rfl ?_
  refine doL_nil ?_
  refine post_rounds ?_
  refine doR_succ ?_
  refine doC_seq ?_
  refine doC_seq ?_
  refine doC_region ?_
  refine doL_v (opV_move rfl) rfl rfl rfl ?_
  refine doL_v (opV_lss rfl rfl) rfl rfl rfl ?_
  refine doL_nil ?_
  refine post_then ?_
  refine doC_cond_t rfl (by decide) ?_
  refine doC_skip ?_
  refine post_then ?_
  refine doC_seq ?_
  refine doC_block ?_
  refine doC_keep (ks := [4, 6, 7, 8, 9, 10, 11]) rfl ?_
  refine doC_srcB 15 16 [9, 11] rfl mo (by kernel_rfl) ?_
  simp only [List.take_succ_cons, List.take_zero, List.drop_succ_cons, List.drop_zero]
  refine doM_v (fun _ => opV_move rfl) rfl rfl rfl rfl ?_
  refine doM_v (fun _ => opV_move rfl) rfl rfl rfl rfl ?_
  refine doM_v (fun _ => opV_move rfl) rfl rfl rfl rfl ?_
  refine doM_v (fun _ => opV_move rfl) rfl rfl rfl rfl ?_
  refine doM_v (fun _ => opV_fieldAddr fa63_0 rfl) rfl rfl rfl rfl ?_
  refine doM_v (fun _ => opV_indexAddr ar28 rfl rfl (by first | decide | omega) (by first | decide | omega)) rfl rfl rfl rfl ?_
  refine doM_v (fun _ => opV_indexAddr ar26 rfl rfl (by first | decide | omega) (by first | decide | omega)) rfl rfl rfl rfl ?_
  refine doM_v (fun _ => opV_loadA 7 ty23 rfl rfl rfl) rfl rfl rfl rfl ?_
  refine doM_v (fun _ => opV_move rfl) rfl rfl rfl rfl ?_
  refine doM_srcB (F := vI) 15 hm rfl en30 rfl (fun w' h => srcNext _ (by first | omega | assumption | (unfold In64; omega) | decide) w' h) rfl rfl rfl ?_; intro r49_2 hr49_2
  have br49_2 := srcR_b hr49_2 (by first | decide | omega)
  refine doM_v (fun _ => opV_move rfl) rfl rfl rfl rfl ?_
  refine doM_srcB (F := vI) 15 hm rfl en30 rfl (fun w' h => srcNext _ (by first | omega | assumption | (unfold In64; omega) | decide) w' h) rfl rfl rfl ?_; intro r51_2 hr51_2
  have br51_2 := srcR_b hr51_2 (by first | decide | omega)
  refine doM_vg (F := iv) (fun _ => opV_call en45 rfl (fun w _ => partC _ _ _ _ kr17.r.x.y.ok w)) rfl rfl rfl rfl ?_; intro r52_2 hr52_2
  refine doM_v (fun _ => opV_fieldAddr fa63_0 rfl) rfl rfl rfl rfl ?_
  refine doM_v (fun _ => opV_indexAddr ar28 rfl rfl (by first | decide | omega) (by first | decide | omega)) rfl rfl rfl rfl ?_
  refine doM_v (fun _ => opV_indexAddr ar26 rfl rfl (by first | decide | omega) (by first | decide | omega)) rfl rfl rfl rfl ?_
  refine doM_nil ?_
  refine tail_heap rfl ?_
  refine tail_nil ?_
  refine doL_store 9 ty23 rfl rfl rfl rfl rfl rfl rfl rfl ?_
  refine doL_nil ?_
  refine post_block_normal ?_
  refine post_then ?_
  refine doC_region ?_
  refine doL_v (opV_move rfl) rfl rfl rfl ?_
  refine doL_v (opV_add rfl rfl (by first | exact i64_in ⟨by omega, by omega⟩ | rfl)) rfl rfl rfl ?_
  refine doL_v (opV_assign rfl) rfl rfl rfl ?_
  refine doL_nil ?_
  refine post_rounds ?_
  refine doR_succ ?_
  refine doC_seq ?_
  refine doC_seq ?_
  refine doC_region ?_
  refine doL_v (opV_move rfl) rfl rfl rfl ?_
  refine doL_v (opV_lss rfl rfl) rfl rfl rfl ?_
  refine doL_nil ?_
  refine post_then ?_
  refine doC_cond_t rfl (by decide) ?_
  refine doC_skip ?_
  refine post_then ?_
  refine doC_seq ?_
  refine doC_block ?_
  refine doC_keep (ks := [4, 6, 7, 8, 9, 10, 11]) rfl ?_
  refine doC_srcB 15 16 [9, 11] rfl mo (by kernel_rfl) ?_
  simp only [List.take_succ_cons, List.take_zero, List.drop_succ_cons, List.drop_zero]
  refine doM_v (fun _ => opV_move rfl) rfl rfl rfl rfl ?_
  refine doM_v (fun _ => opV_move rfl) rfl rfl rfl rfl ?_
  refine doM_v (fun _ => opV_move rfl) rfl rfl rfl rfl ?_
  refine doM_v (fun _ => opV_move rfl) rfl rfl rfl rfl ?_
  refine doM_v (fun _ => opV_fieldAddr fa63_0 rfl) rfl rfl rfl rfl ?_
  refine doM_v (fun _ => opV_indexAddr ar28 rfl rfl (by first | decide | omega) (by first | decide | omega)) rfl rfl rfl rfl ?_
  refine doM_v (fun _ => opV_indexAddr ar26 rfl rfl (by first | decide | omega) (by first | decide | omega)) rfl rfl rfl rfl ?_
  refine doM_v (fun _ => opV_loadA 7 ty23 rfl rfl rfl) rfl rfl rfl rfl ?_
  refine doM_v (fun _ => opV_move rfl) rfl rfl rfl rfl ?_
  refine doM_srcB (F := vI) 15 hm rfl en30 rfl (fun w' h => srcNext _ (by first | omega | assumption | (unfold In64; omega) | decide) w' h) rfl rfl rfl ?_; intro r49_3 hr49_3
  have br49_3 := srcR_b hr49_3 (by first | decide | omega)
  refine doM_v (fun _ => opV_move rfl) rfl rfl rfl rfl ?_
  refine doM_srcB (F := vI) 15 hm rfl en30 rfl (fun w' h => srcNext _ (by first | omega | assumption | (unfold In64; omega) | decide) w' h) rfl rfl rfl ?_; intro r51_3 hr51_3
  have br51_3 := srcR_b hr51_3 (by first | decide | omega)
  refine doM_vg (F := iv) (fun _ => opV_call en45 rfl (fun w _ => partC _ _ _ _ kr17.r.x.z.ok w)) rfl rfl rfl rfl ?_; intro r52_3 hr52_3
  refine doM_v (fun _ => opV_fieldAddr fa63_0 rfl) rfl rfl rfl rfl ?_
  refine doM_v (fun _ => opV_indexAddr ar28 rfl rfl (by first | decide | omega) (by first | decide | omega)) rfl rfl rfl rfl ?_
  refine doM_v (fun _ => opV_indexAddr ar26 rfl rfl (by first | decide | omega) (by first | decide | omega)) rfl rfl rfl rfl ?_
  refine doM_nil ?_
  refine tail_heap rfl ?_
  refine tail_nil ?_
  refine doL_store 9 ty23 rfl rfl rfl rfl rfl rfl rfl rfl ?_
  refine doL_nil ?_
  refine post_block_normal ?_
  refine post_then ?_
  refine doC_region ?_
  refine doL_v (opV_move rfl) rfl rfl rfl ?_
  refine doL_v (opV_add rfl rfl (by first | exact i64_in ⟨by omega, by omega⟩ | rfl)) rfl rfl rfl ?_
  refine doL_v (opV_assign rfl) rfl rfl rfl ?_
  refine doL_nil ?_
  refine post_rounds ?_
  refine doR_succ ?_
  refine doC_seq ?_
  refine doC_seq ?_
  refine doC_region ?_
  refine doL_v (opV_move rfl) rfl rfl rfl ?_
  refine doL_v (opV_lss rfl rfl) rfl rfl rfl ?_
  refine doL_nil ?_
  refine post_then ?_
  refine doC_cond_f rfl (by decide) ?_
  refine doC_exit ?_
  refine post_then_exit ?_
  refine post_then_exit ?_
  refine post_block_exit ?_
  refine post_block_normal ?_
  refine post_then ?_
  refine doC_region ?_
  refine doL_v (opV_move rfl) rfl rfl rfl ?_
  refine doL_v (opV_add rfl rfl (by first | exact i64_in ⟨by omega, by omega⟩ | rfl)) rfl rfl rfl ?_
  refine doL_v (opV_assign rfl) rfl rfl rfl ?_
  refine doL_nil ?_
  refine post_rounds ?_
  refine doR_succ ?_
  refine doC_seq ?_
  refine doC_seq ?_
  refine doC_region ?_
  refine doL_v (opV_move rfl) rfl rfl rfl ?_
  refine doL_v (opV_lss rfl rfl) rfl rfl rfl ?_
  refine doL_nil ?_
  refine post_then ?_
  refine doC_cond_t rfl (by decide) ?_
  refine doC_skip ?_
  refine post_then ?_
  refine doC_seq ?_
  refine doC_block ?_
  refine doC_seq ?_
  refine doC_keep (ks := [4, 6, 7, 8, 9, 10]) rfl ?_
  refine doC_srcB 15 12 [6, 8] rfl mo (by kernel_rfl) ?_
  simp only [List.take_succ_cons, List.take_zero, List.drop_succ_cons, List.drop_zero]
  refine doM_v (fun _ => opV_move rfl) rfl rfl rfl rfl ?_
  refine doM_v (fun _ => opV_move rfl) rfl rfl rfl rfl ?_
  refine doM_v (fun _ => opV_fieldAddr fa63_1 rfl) rfl rfl rfl rfl ?_
  refine doM_v (fun _ => opV_indexAddr ar34 rfl rfl (by first | decide | omega) (by first | decide | omega)) rfl rfl rfl rfl ?_
  refine doM_v (fun _ => opV_loadA 7 ty23 rfl rfl rfl) rfl rfl rfl rfl ?_
  refine doM_v (fun _ => opV_move rfl) rfl rfl rfl rfl ?_
  refine doM_srcB (F := vI) 15 hm rfl en30 rfl (fun w' h => srcNext _ (by first | omega | assumption | (unfold In64; omega) | decide) w' h) rfl rfl rfl ?_; intro r30_2 hr30_2
  have br30_2 := srcR_b hr30_2 (by first | decide | omega)
  refine doM_v (fun _ => opV_move rfl) rfl rfl rfl rfl ?_
  refine doM_srcB (F := vI) 15 hm rfl en30 rfl (fun w' h => srcNext _ (by first | omega | assumption | (unfold In64; omega) | decide) w' h) rfl rfl rfl ?_; intro r32_2 hr32_2
  have br32_2 := srcR_b hr32_2 (by first | decide | omega)
  refine doM_vg (F := iv) (fun _ => opV_call en45 rfl (fun w _ => partC _ _ _ _ kr17.t.y w)) rfl rfl rfl rfl ?_; intro r33_2 hr33_2
  refine doM_v (fun _ => opV_fieldAddr fa63_1 rfl) rfl rfl rfl rfl ?_
  refine doM_v (fun _ => opV_indexAddr ar34 rfl rfl (by first | decide | omega) (by first | decide | omega)) rfl rfl rfl rfl ?_
  refine doM_nil ?_
  refine tail_heap rfl ?_
  refine tail_nil ?_
  refine doL_store 9 ty23 rfl rfl rfl rfl rfl rfl rfl rfl ?_
  refine doL_nil ?_
  refine post_then ?_
  refine doC_seq ?_
  refine doC_region ?_
  refine doL_v (opV_assign rfl) rfl rfl rfl ?_
  refine doL_nil ?_
  refine post_then ?_
  refine doC_block ?_
  refine doC_rounds 4 ?_
  refine doR_succ ?_
  refine doC_seq ?_
  refine doC_seq ?_
  refine doC_region ?_
  refine doL_v (opV_move rfl) rfl rfl rfl ?_
  refine doL_v (opV_lss rfl rfl) rfl rfl rfl ?_
  refine doL_nil ?_
  refine post_then ?_
  refine doC_cond_t rfl (by decide) ?_
  refine doC_skip ?_
  refine post_then ?_
  refine doC_seq ?_
  refine doC_block ?_
  refine doC_keep (ks := [4, 6, 7, 8, 9, 10, 11]) rfl ?_
  refine doC_srcB 15 16 [9, 11] rfl mo (by kernel_rfl) ?_
  simp only [List.take_succ_cons, List.take_zero, List.drop_succ_cons, List.drop_zero]
  refine doM_v (fun _ => opV_move rfl) rfl rfl rfl rfl ?_
  refine doM_v (fun _ => opV_move rfl) rfl rfl rfl rfl ?_
  refine doM_v (fun _ => opV_move rfl) rfl rfl rfl rfl ?_
  refine doM_v (fun _ => opV_move rfl) rfl rfl rfl rfl ?_
  refine doM_v (fun _ => opV_fieldAddr fa63_0 rfl) rfl rfl rfl rfl ?_
  refine doM_v (fun _ => opV_indexAddr ar28 rfl rfl (by first | decide | omega) (by first | decide | omega)) rfl rfl rfl rfl ?_
  refine doM_v (fun _ => opV_indexAddr ar26 rfl rfl (by first | decide | omega) (by first | decide | omega)) rfl rfl rfl rfl ?_
  refine doM_v (fun _ => opV_loadA 7 ty23 rfl rfl rfl) rfl rfl rfl rfl ?_
  refine doM_v (fun _ => opV_move rfl) rfl rfl rfl rfl ?_
  refine doM_srcB (F := vI) 15 hm rfl en30 rfl (fun w' h => srcNext _ (by first | omega | assumption | (unfold In64; omega) | decide) w' h) rfl rfl rfl ?_; intro r49_4 hr49_4
  have br49_4 := srcR_b hr49_4 (by first | decide | omega)
  refine doM_v (fun _ => opV_move rfl) rfl rfl rfl rfl ?_
  refine doM_srcB (F := vI) 15 hm rfl en30 rfl (fun w' h => srcNext _ (by first | omega | assumption | (unfold In64; omega) | decide) w' h) rfl rfl rfl ?_; intro r51_4 hr51_4
  have br51_4 := srcR_b hr51_4 (by first | decide | omega)
  refine doM_vg (F := iv) (fun _ => opV_call en45 rfl (fun w _ => partC _ _ _ _ kr17.r.y.x.ok w)) rfl rfl rfl rfl ?_; intro r52_4 hr52_4
  refine doM_v (fun _ => opV_fieldAddr fa63_0 rfl) rfl rfl rfl rfl ?_
  refine doM_v (fun _ => opV_indexAddr ar28 rfl rfl (by first | decide | omega) (by first | decide | omega)) rfl rfl rfl rfl ?_
  refine doM_v (fun _ => opV_indexAddr ar26 rfl rfl (by first | decide | omega) (by first | decide | omega)) rfl rfl rfl rfl ?_
  refine doM_nil ?_
  refine tail_heap rfl ?_
  refine tail_nil ?_
  refine doL_store 9 ty23 rfl rfl rfl rfl rfl rfl rfl rfl ?_
  refine doL_nil ?_
  refine post_block_normal ?_
  refine post_then ?_
  refine doC_region ?_
  refine doL_v (opV_move rfl) rfl rfl rfl ?_
  refine doL_v (opV_add rfl rfl (by first | exact i64_in ⟨by omega, by omega⟩ | rfl)) rfl rfl rfl ?_
  refine doL_v (opV_assign rfl) rfl rfl rfl ?_
  refine doL_nil ?_
  refine post_rounds ?_
  refine doR_succ ?_
  refine doC_seq ?_
  refine doC_seq ?_
  refine doC_region ?_
  refine doL_v (opV_move rfl) rfl rfl rfl ?_
  refine doL_v (opV_lss rfl rfl) rfl rfl rfl ?_
  refine doL_nil ?_
  refine post_then ?_
  refine doC_cond_t rfl (by decide) ?_
  refine doC_skip ?_
  refine post_then ?_
  refine doC_seq ?_
  refine doC_block ?_
  refine doC_keep (ks := [4, 6, 7, 8, 9, 10, 11]) rfl ?_
  refine doC_srcB 15 16 [9, 11] rfl mo (by kernel_rfl) ?_
  simp only [List.take_succ_cons, List.take_zero, List.drop_succ_cons, List.drop_zero]
  refine doM_v (fun _ => opV_move rfl) rfl rfl rfl rfl ?_
  refine doM_v (fun _ => opV_move rfl) rfl rfl rfl rfl ?_
  refine doM_v (fun _ => opV_move rfl) rfl rfl rfl rfl ?_
  refine doM_v (fun _ => opV_move rfl) rfl rfl rfl rfl ?_
  refine doM_v (fun _ => opV_fieldAddr fa63_0 rfl) rfl rfl rfl rfl ?_
  refine doM_v (fun _ => opV_indexAddr ar28 rfl rfl (by first | decide | omega) (by first | decide | omega)) rfl rfl rfl rfl ?_
  refine doM_v (fun _ => opV_indexAddr ar26 rfl rfl (by first | decide | omega) (by first | decide | omega)) rfl rfl rfl rfl ?_
  refine doM_v (fun _ => opV_loadA 7 ty23 rfl rfl rfl) rfl rfl rfl rfl ?_
  refine doM_v (fun _ => opV_move rfl) rfl rfl rfl rfl ?_
  refine doM_srcB (F := vI) 15 hm rfl en30 rfl (fun w' h => srcNext _ (by first | omega | assumption | (unfold In64; omega) | decide) w' h) rfl rfl rfl ?_; intro r49_5 hr49_5
  have br49_5 := srcR_b hr49_5 (by first | decide | omega)
  refine doM_v (fun _ => opV_move rfl) rfl rfl rfl rfl ?_
  refine doM_srcB (F := vI) 15 hm rfl en30 rfl (fun w' h => srcNext _ (by first | omega | assumption | (unfold In64; omega) | decide) w' h) rfl rfl rfl ?_; intro r51_5 hr51_5
  have br51_5 := srcR_b hr51_5 (by first | decide | omega)
  refine doM_vg (F := iv) (fun _ => opV_call en45 rfl (fun w _ => partC _ _ _ _ kr17.r.y.y.ok w)) rfl rfl rfl rfl ?_; intro r52_5 hr52_5
  refine doM_v (fun _ => opV_fieldAddr fa63_0 rfl) rfl rfl rfl rfl ?_
  refine doM_v (fun _ => opV_indexAddr ar28 rfl rfl (by first | decide | omega) (by first | decide | omega)) rfl rfl rfl rfl ?_
  refine doM_v (fun _ => opV_indexAddr ar26 rfl rfl (by first | decide | omega) (by first | decide | omega)) rfl rfl rfl rfl ?_
  refine doM_nil ?_
  refine tail_heap rfl ?_
  refine tail_nil ?_
  refine doL_store 9 ty23 rfl rfl rfl rfl rfl rfl rfl rfl ?_
  refine doL_nil ?_
  refine post_block_normal ?_
  refine post_then ?_
  refine doC_region ?_
  refine doL_v (opV_move rfl) rfl rfl rfl ?_
  refine doL_v (opV_add rfl rfl (by first | exact i64_in ⟨by omega, by omega⟩ | rfl)) rfl rfl rfl ?_
  refine doL_v (opV_assign rfl) rfl rfl rfl ?_
  refine doL_nil ?_
  refine post_rounds ?_
  refine doR_succ ?_
  refine doC_seq ?_
  refine doC_seq ?_
  refine doC_region ?_
  refine doL_v (opV_move rfl) rfl rfl rfl ?_
  refine doL_v (opV_lss rfl rfl) rfl rfl rfl ?_
  refine doL_nil ?_
  refine post_then ?_
  refine doC_cond_t rfl (by decide) ?_
  refine doC_skip ?_
  refine post_then ?_
  refine doC_seq ?_
  refine doC_block ?_
  refine doC_keep (ks := [4, 6, 7, 8, 9, 10, 11]) rfl ?_
  refine doC_srcB 15 16 [9, 11] rfl mo (by kernel_rfl) ?_
  simp only [List.take_succ_cons, List.take_zero, List.drop_succ_cons, List.drop_zero]
  refine doM_v (fun _ => opV_move rfl) rfl rfl rfl rfl ?_
  refine doM_v (fun _ => opV_move rfl) rfl rfl rfl rfl ?_
  refine doM_v (fun _ => opV_move rfl) rfl rfl rfl rfl ?_
  refine doM_v (fun _ => opV_move rfl) rfl rfl rfl rfl ?_
  refine doM_v (fun _ => opV_fieldAddr fa63_0 rfl) rfl rfl rfl rfl ?_
  refine doM_v (fun _ => opV_indexAddr ar28 rfl rfl (by first | decide | omega) (by first | decide | omega)) rfl rfl rfl rfl ?_
  refine doM_v (fun _ => opV_indexAddr ar26 rfl rfl (by first | decide | omega) (by first | decide | omega)) rfl rfl rfl rfl ?_
  refine doM_v (fun _ => opV_loadA 7 ty23 rfl rfl rfl) rfl rfl rfl rfl ?_
  refine doM_v (fun _ => opV_move rfl) rfl rfl rfl rfl ?_
  refine doM_srcB (F := vI) 15 hm rfl en30 rfl (fun w' h => srcNext _ (by first | omega | assumption | (unfold In64; omega) | decide) w' h) rfl rfl rfl ?_; intro r49_6 hr49_6
  have br49_6 := srcR_b hr49_6 (by first | decide | omega)
  refine doM_v (fun _ => opV_move rfl) rfl rfl rfl rfl ?_
  refine doM_srcB (F := vI) 15 hm rfl en30 rfl (fun w' h => srcNext _ (by first | omega | assumption | (unfold In64; omega) | decide) w' h) rfl rfl rfl ?_; intro r51_6 hr51_6
  have br51_6 := srcR_b hr51_6 (by first | decide | omega)
  refine doM_vg (F := iv) (fun _ => opV_call en45 rfl (fun w _ => partC _ _ _ _ kr17.r.y.z.ok w)) rfl rfl rfl rfl ?_; intro r52_6 hr52_6
  refine doM_v (fun _ => opV_fieldAddr fa63_0 rfl) rfl rfl rfl rfl ?_
  refine doM_v (fun _ => opV_indexAddr ar28 rfl rfl (by first | decide | omega) (by first | decide | omega)) rfl rfl rfl rfl ?_
  refine doM_v (fun _ => opV_indexAddr ar26 rfl rfl (by first | decide | omega) (by first | decide | omega)) rfl rfl rfl rfl ?_
  refine doM_nil ?_
  refine tail_heap rfl ?_
  refine tail_nil ?_
  refine doL_store 9 ty23 rfl rfl rfl rfl rfl rfl rfl rfl ?_
  refine doL_nil ?_
  refine post_block_normal ?_
  refine post_then ?_
  refine doC_region ?_
  refine doL_v (opV_move rfl) rfl rfl rfl ?_
  refine doL_v (opV_add rfl rfl (by first | exact i64_in ⟨by omega, by omega⟩ | rfl)) rfl rfl rfl ?_
  refine doL_v (opV_assign rfl) rfl rfl rfl ?_
  refine doL_nil ?_
  refine post_rounds ?_
  refine doR_succ ?_
  refine doC_seq ?_
  refine doC_seq ?_
  refine doC_region ?_
  refine doL_v (opV_move rfl) rfl rfl rfl ?_
  refine doL_v (opV_lss rfl rfl) rfl rfl rfl ?_
  refine doL_nil ?_
  refine post_then ?_
  refine doC_cond_f rfl (by decide) ?_
  refine doC_exit ?_
  refine post_then_exit ?_
  refine post_then_exit ?_
  refine post_block_exit ?_
  refine post_block_normal ?_
  refine post_then ?_
  refine doC_region ?_
  refine doL_v (opV_move rfl) rfl rfl rfl ?_
  refine doL_v (opV_add rfl rfl (by first | exact i64_in ⟨by omega, by omega⟩ | rfl)) rfl rfl rfl ?_
  refine doL_v (opV_assign rfl) rfl rfl rfl ?_
  refine doL_nil ?_
  refine post_rounds ?_
  refine doR_succ ?_
  refine doC_seq ?_
  refine doC_seq ?_
  refine doC_region ?_
  refine doL_v (opV_move rfl) rfl rfl rfl ?_
  refine doL_v (opV_lss rfl rfl) rfl rfl rfl ?_
  refine doL_nil ?_
  refine post_then ?_
  refine doC_cond_t rfl (by decide) ?_
  refine doC_skip ?_
  refine post_then ?_
  refine doC_seq ?_
  refine doC_block ?_
  refine doC_seq ?_
  refine doC_keep (ks := [4, 6, 7, 8, 9, 10]) rfl ?_
  refine doC_srcB 15 12 [6, 8] rfl mo (by kernel_rfl) ?_
  simp only [List.take_succ_cons, List.take_zero, List.drop_succ_cons, List.drop_zero]
  refine doM_v (fun _ => opV_move rfl) rfl rfl rfl rfl ?_
  refine doM_v (fun _ => opV_move rfl) rfl rfl rfl rfl ?_
  refine doM_v (fun _ => opV_fieldAddr fa63_1 rfl) rfl rfl rfl rfl ?_
  refine doM_v (fun _ => opV_indexAddr ar34 rfl rfl (by first | decide | omega) (by first | decide | omega)) rfl rfl rfl rfl ?_
  refine doM_v (fun _ => opV_loadA 7 ty23 rfl rfl rfl) rfl rfl rfl rfl ?_
  refine doM_v (fun _ => opV_move rfl) rfl rfl rfl rfl ?_
  refine doM_srcB (F := vI) 15 hm rfl en30 rfl (fun w' h => srcNext _ (by first | omega | assumption | (unfold In64; omega) | decide) w' h) rfl rfl rfl ?_; intro r30_3 hr30_3
  have br30_3 := srcR_b hr30_3 (by first | decide | omega)
  refine doM_v (fun _ => opV_move rfl) rfl rfl rfl rfl ?_
  refine doM_srcB (F := vI) 15 hm rfl en30 rfl (fun w' h => srcNext _ (by first | omega | assumption | (unfold In64; omega) | decide) w' h) rfl rfl rfl ?_; intro r32_3 hr32_3
  have br32_3 := srcR_b hr32_3 (by first | decide | omega)
  refine doM_vg (F := iv) (fun _ => opV_call en45 rfl (fun w _ => partC _ _ _ _ kr17.t.z w)) rfl rfl rfl rfl ?_; intro r33_3 hr33_3
  refine doM_v (fun _ => opV_fieldAddr fa63_1 rfl) rfl rfl rfl rfl ?_
  refine doM_v (fun _ => opV_indexAddr ar34 rfl rfl (by first | decide | omega) (by first | decide | omega)) rfl rfl rfl rfl ?_
  refine doM_nil ?_
  refine tail_heap rfl ?_
  refine tail_nil ?_
  refine doL_store 9 ty23 rfl rfl rfl rfl rfl rfl rfl rfl ?_
  refine doL_nil ?_
  refine post_then ?_
  refine doC_seq ?_
  refine doC_region ?_
  refine doL_v (opV_assign rfl) rfl rfl rfl ?_
  refine doL_nil ?_
  refine post_then ?_
  refine doC_block ?_
  refine doC_rounds 4 ?_
  refine doR_succ ?_
  refine doC_seq ?_
  refine doC_seq ?_
  refine doC_region ?_
  refine doL_v (opV_move rfl) rfl rfl rfl ?_
  refine doL_v (opV_lss rfl rfl) rfl rfl rfl ?_
  refine doL_nil ?_
  refine post_then ?_
  refine doC_cond_t rfl (by decide) ?_
  refine doC_skip ?_
  refine post_then ?_
  refine doC_seq ?_
  refine doC_block ?_
  refine doC_keep (ks := [4, 6, 7, 8, 9, 10, 11]) rfl ?_
  refine doC_srcB 15 16 [9, 11] rfl mo (by kernel_rfl) ?_
  simp only [List.take_succ_cons, List.take_zero, List.drop_succ_cons, List.drop_zero]
  refine doM_v (fun _ => opV_move rfl) rfl rfl rfl rfl ?_
  refine doM_v (fun _ => opV_move rfl) rfl rfl rfl rfl ?_
  refine doM_v (fun _ => opV_move rfl) rfl rfl rfl rfl ?_
  refine doM_v (fun _ => opV_move rfl) rfl rfl rfl rfl ?_
  refine doM_v (fun _ => opV_fieldAddr fa63_0 rfl) rfl rfl rfl rfl ?_
  refine doM_v (fun _ => opV_indexAddr ar28 rfl rfl (by first | decide | omega) (by first | decide | omega)) rfl rfl rfl rfl ?_
  refine doM_v (fun _ => opV_indexAddr ar26 rfl rfl (by first | decide | omega) (by first | decide | omega)) rfl rfl rfl rfl ?_
  refine doM_v (fun _ => opV_loadA 7 ty23 rfl rfl rfl) rfl rfl rfl rfl ?_
  refine doM_v (fun _ => opV_move rfl) rfl rfl rfl rfl ?_
  refine doM_srcB (F := vI) 15 hm rfl en30 rfl (fun w' h => srcNext _ (by first | omega | assumption | (unfold In64; omega) | decide) w' h) rfl rfl rfl ?_; intro r49_7 hr49_7
  have br49_7 := srcR_b hr49_7 (by first | decide | omega)
  refine doM_v (fun _ => opV_move rfl) rfl rfl rfl rfl ?_
  refine doM_srcB (F := vI) 15 hm rfl en30 rfl (fun w' h => srcNext _ (by first | omega | assumption | (unfold In64; omega) | decide) w' h) rfl rfl rfl ?_; intro r51_7 hr51_7
  have br51_7 := srcR_b hr51_7 (by first | decide | omega)
  refine doM_vg (F := iv) (fun _ => opV_call en45 rfl (fun w _ => partC _ _ _ _ kr17.r.z.x.ok w)) rfl rfl rfl rfl ?_; intro r52_7 hr52_7
  refine doM_v (fun _ => opV_fieldAddr fa63_0 rfl) rfl rfl rfl rfl ?_
  refine doM_v (fun _ => opV_indexAddr ar28 rfl rfl (by first | decide | omega) (by first | decide | omega)) rfl rfl rfl rfl ?_
  refine doM_v (fun _ => opV_indexAddr ar26 rfl rfl (by first | decide | omega) (by first | decide | omega)) rfl rfl rfl rfl ?_
  refine doM_nil ?_
  refine tail_heap rfl ?_
  refine tail_nil ?_
  refine doL_store 9 ty23 rfl rfl rfl rfl rfl rfl rfl rfl ?_
  refine doL_nil ?_
  refine post_block_normal ?_
  refine post_then ?_
  refine doC_region ?_
  refine doL_v (opV_move rfl) rfl rfl rfl ?_
  refine doL_v (opV_add rfl rfl (by first | exact i64_in ⟨by omega, by omega⟩ | rfl)) rfl rfl rfl ?_
  refine doL_v (opV_assign rfl) rfl rfl rfl ?_
  refine doL_nil ?_
  refine post_rounds ?_
  refine doR_succ ?_
  refine doC_seq ?_
  refine doC_seq ?_
  refine doC_region ?_
  refine doL_v (opV_move rfl) rfl rfl rfl ?_
  refine doL_v (opV_lss rfl rfl) rfl rfl rfl ?_
  refine doL_nil ?_
  refine post_then ?_
  refine doC_cond_t rfl (by decide) ?_
  refine doC_skip ?_
  refine post_then ?_
  refine doC_seq ?_
  refine doC_block ?_
  refine doC_keep (ks := [4, 6, 7, 8, 9, 10, 11]) rfl ?_
  refine doC_srcB 15 16 [9, 11] rfl mo (by kernel_rfl) ?_
  simp only [List.take_succ_cons, List.take_zero, List.drop_succ_cons, List.drop_zero]
  refine doM_v (fun _ => opV_move rfl) rfl rfl rfl rfl ?_
  refine doM_v (fun _ => opV_move rfl) rfl rfl rfl rfl ?_
  refine doM_v (fun _ => opV_move rfl) rfl rfl rfl rfl ?_
  refine doM_v (fun _ => opV_move rfl) rfl rfl rfl rfl ?_
  refine doM_v (fun _ => opV_fieldAddr fa63_0 rfl) rfl rfl rfl rfl ?_
  refine doM_v (fun _ => opV_indexAddr ar28 rfl rfl (by first | decide | omega) (by first | decide | omega)) rfl rfl rfl rfl ?_
  refine doM_v (fun _ => opV_indexAddr ar26 rfl rfl (by first | decide | omega) (by first | decide | omega)) rfl rfl rfl rfl ?_
  refine doM_v (fun _ => opV_loadA 7 ty23 rfl rfl rfl) rfl rfl rfl rfl ?_
  refine doM_v (fun _ => opV_move rfl) rfl rfl rfl rfl ?_
  refine doM_srcB (F := vI) 15 hm rfl en30 rfl (fun w' h => srcNext _ (by first | omega | assumption | (unfold In64; omega) | decide) w' h) rfl rfl rfl ?_; intro r49_8 hr49_8
  have br49_8 := srcR_b hr49_8 (by first | decide | omega)
  refine doM_v (fun _ => opV_move rfl) rfl rfl rfl rfl ?_
  refine doM_srcB (F := vI) 15 hm rfl en30 rfl (fun w' h => srcNext _ (by first | omega | assumption | (unfold In64; omega) | decide) w' h) rfl rfl rfl ?_; intro r51_8 hr51_8
  have br51_8 := srcR_b hr51_8 (by first | decide | omega)
  refine doM_vg (F := iv) (fun _ => opV_call en45 rfl (fun w _ => partC _ _ _ _ kr17.r.z.y.ok w)) rfl rfl rfl rfl ?_; intro r52_8 hr52_8
  refine doM_v (fun _ => opV_fieldAddr fa63_0 rfl) rfl rfl rfl rfl ?_
  refine doM_v (fun _ => opV_indexAddr ar28 rfl rfl (by first | decide | omega) (by first | decide | omega)) rfl rfl rfl rfl ?_
  refine doM_v (fun _ => opV_indexAddr ar26 rfl rfl (by first | decide | omega) (by first | decide | omega)) rfl rfl rfl rfl ?_
  refine doM_nil ?_
  refine tail_heap rfl ?_
  refine tail_nil ?_
  refine doL_store 9 ty23 rfl rfl rfl rfl rfl rfl rfl rfl ?_
  refine doL_nil ?_
  refine post_block_normal ?_
  refine post_then ?_
  refine doC_region ?_
  refine doL_v (opV_move rfl) rfl rfl rfl ?_
  refine doL_v (opV_add rfl rfl (by first | exact i64_in ⟨by omega, by omega⟩ | rfl)) rfl rfl rfl ?_
  refine doL_v (opV_assign rfl) rfl rfl rfl ?_
  refine doL_nil ?_
  refine post_rounds ?_
  refine doR_succ ?_
  refine doC_seq ?_
  refine doC_seq ?_
  refine doC_region ?_
  refine doL_v (opV_move rfl) rfl rfl rfl ?_
  refine doL_v (opV_lss rfl rfl) rfl rfl rfl ?_
  refine doL_nil ?_
  refine post_then ?_
  refine doC_cond_t rfl (by decide) ?_
  refine doC_skip ?_
  refine post_then ?_
  refine doC_seq ?_
  refine doC_block ?_
  refine doC_keep (ks := [4, 6, 7, 8, 9, 10, 11]) rfl ?_
  refine doC_srcB 15 16 [9, 11] rfl mo (by kernel_rfl) ?_
  simp only [List.take_succ_cons, List.take_zero, List.drop_succ_cons, List.drop_zero]
  refine doM_v (fun _ => opV_move rfl) rfl rfl rfl rfl ?_
  refine doM_v (fun _ => opV_move rfl) rfl rfl rfl rfl ?_
  refine doM_v (fun _ => opV_move rfl) rfl rfl rfl rfl ?_
  refine doM_v (fun _ => opV_move rfl) rfl rfl rfl rfl ?_
  refine doM_v (fun _ => opV_fieldAddr fa63_0 rfl) rfl rfl rfl rfl ?_
  refine doM_v (fun _ => opV_indexAddr ar28 rfl rfl (by first | decide | omega) (by first | decide | omega)) rfl rfl rfl rfl ?_
  refine doM_v (fun _ => opV_indexAddr ar26 rfl rfl (by first | decide | omega) (by first | decide | omega)) rfl rfl rfl rfl ?_
  refine doM_v (fun _ => opV_loadA 7 ty23 rfl rfl rfl) rfl rfl rfl rfl ?_
  refine doM_v (fun _ => opV_move rfl) rfl rfl rfl rfl ?_
  refine doM_srcB (F := vI) 15 hm rfl en30 rfl (fun w' h => srcNext _ (by first | omega | assumption | (unfold In64; omega) | decide) w' h) rfl rfl rfl ?_; intro r49_9 hr49_9
  have br49_9 := srcR_b hr49_9 (by first | decide | omega)
  refine doM_v (fun _ => opV_move rfl) rfl rfl rfl rfl ?_
  refine doM_srcB (F := vI) 15 hm rfl en30 rfl (fun w' h => srcNext _ (by first | omega | assumption | (unfold In64; omega) | decide) w' h) rfl rfl rfl ?_; intro r51_9 hr51_9
  have br51_9 := srcR_b hr51_9 (by first | decide | omega)
  refine doM_vg (F := iv) (fun _ => opV_call en45 rfl (fun w _ => partC _ _ _ _ kr17.r.z.z.ok w)) rfl rfl rfl rfl ?_; intro r52_9 hr52_9
  refine doM_v (fun _ => opV_fieldAddr fa63_0 rfl) rfl rfl rfl rfl ?_
  refine doM_v (fun _ => opV_indexAddr ar28 rfl rfl (by first | decide | omega) (by first | decide | omega)) rfl rfl rfl rfl ?_
  refine doM_v (fun _ => opV_indexAddr ar26 rfl rfl (by first | decide | omega) (by first | decide | omega)) rfl rfl rfl rfl ?_
  refine doM_nil ?_
  refine tail_heap rfl ?_
  refine tail_nil ?_
  refine doL_store 9 ty23 rfl rfl rfl rfl rfl rfl rfl rfl ?_
  refine doL_nil ?_
  refine post_block_normal ?_
  refine post_then ?_
  refine doC_region ?_
  refine doL_v (opV_move rfl) rfl rfl rfl ?_
  refine doL_v (opV_add rfl rfl (by first | exact i64_in ⟨by omega, by omega⟩ | rfl)) rfl rfl rfl ?_
  refine doL_v (opV_assign rfl) rfl rfl rfl ?_
  refine doL_nil ?_
  refine post_rounds ?_
  refine doR_succ ?_
  refine doC_seq ?_
  refine doC_seq ?_
  refine doC_region ?_
  refine doL_v (opV_move rfl) rfl rfl rfl ?_
  refine doL_v (opV_lss rfl rfl) rfl rfl rfl ?_
  refine doL_nil ?_
  refine post_then ?_
  refine doC_cond_f rfl (by decide) ?_
  refine doC_exit ?_
  refine post_then_exit ?_
  refine post_then_exit ?_
  refine post_block_exit ?_
  refine post_block_normal ?_
  refine post_then ?_
  refine doC_region ?_
  refine doL_v (opV_move rfl) rfl rfl rfl ?_
  refine doL_v (opV_add rfl rfl (by first | exact i64_in ⟨by omega, by omega⟩ | rfl)) rfl rfl rfl ?_
  refine doL_v (opV_assign rfl) rfl rfl rfl ?_
  refine doL_nil ?_
  refine post_rounds ?_
  refine doR_succ ?_
  refine doC_seq ?_
  refine doC_seq ?_
  refine doC_region ?_
  refine doL_v (opV_move rfl) rfl rfl rfl ?_
  refine doL_v (opV_lss rfl rfl) rfl rfl rfl ?_
  refine doL_nil ?_
  refine post_then ?_
  refine doC_cond_f rfl (by decide) ?_
  refine doC_exit ?_
  refine post_then_exit ?_
  refine post_then_exit ?_
  refine post_block_exit ?_
  refine post_then ?_
  refine doC_seq ?_
  obtain ⟨pp, hpp⟩ : ∃ pp : Po, pp = ⟨⟨⟨r52, r52_2, r52_3⟩, ⟨r52_4, r52_5, r52_6⟩, ⟨r52_7, r52_8, r52_9⟩⟩, ⟨r33, r33_2, r33_3⟩⟩ := ⟨_, rfl⟩
  have sp : PSub pp r17 := hpp ▸ (⟨⟨⟨hr52 ▸ part_sub kr17.r.x.x.ok _ _, hr52_2 ▸ part_sub kr17.r.x.y.ok _ _, hr52_3 ▸ part_sub kr17.r.x.z.ok _ _⟩, ⟨hr52_4 ▸ part_sub kr17.r.y.x.ok _ _, hr52_5 ▸ part_sub kr17.r.y.y.ok _ _, hr52_6 ▸ part_sub kr17.r.y.z.ok _ _⟩, ⟨hr52_7 ▸ part_sub kr17.r.z.x.ok _ _, hr52_8 ▸ part_sub kr17.r.z.y.ok _ _, hr52_9 ▸ part_sub kr17.r.z.z.ok _ _⟩⟩, ⟨hr33 ▸ part_sub kr17.t.x _ _, hr33_2 ▸ part_sub kr17.t.y _ _, hr33_3 ▸ part_sub kr17.t.z _ _⟩⟩ : PSub ⟨⟨⟨r52, r52_2, r52_3⟩, ⟨r52_4, r52_5, r52_6⟩, ⟨r52_7, r52_8, r52_9⟩⟩, ⟨r33, r33_2, r33_3⟩⟩ r17)
  have so := PSub.refl kr19
  refine doC_drawn 42 mo (by kernel_rfl) ?_
  simp only [List.take_succ_cons, List.take_zero, List.drop_succ_cons, List.drop_zero]
  refine doG_vg (F := vB) (opV_call en52 rfl (fun w _ => awake5   w)) rfl rfl rfl ?_; intro r56 hr56
  obtain rfl : r56 = true := hr56
  refine doG_v (opV_move rfl) rfl rfl rfl ?_
  refine doG_v (opV_loadA 9 ty63 rfl rfl rfl) rfl rfl rfl ?_
  refine doG_v (opV_loadA 7 ty63 rfl rfl rfl) rfl rfl rfl ?_
  refine doG_vg (F := vB) (opV_call en67 rfl (fun w _ => pWithin _ _ _ _ _ _ _ _ _ _ _ _ _ _ _ _ _ _ _ _ _ _ _ _ _ _ _ _ _ _ _ _ _ _ _ _ _ _ _ _ _ _ _ _ _ _ _ _  w)) rfl rfl rfl ?_; intro r60 hr60
  obtain rfl : r60 = true := (by have e60 : r60 = Po.within pp r17 := (by rw [hpp]; exact hr60); rw [e60]; exact sp.within)
  refine doG_v (opV_pick_t rfl rfl rfl rfl) rfl rfl rfl ?_
  refine doG_v (opV_move rfl) rfl rfl rfl ?_
  refine doG_v (opV_loadA 9 ty63 rfl rfl rfl) rfl rfl rfl ?_
  refine doG_v (opV_loadA 8 ty63 rfl rfl rfl) rfl rfl rfl ?_
  refine doG_vg (F := po) (opV_call en51 rfl (fun w _ => pCompose _ _ _ _ _ _ _ _ _ _ _ _ _ _ _ _ _ _ _ _ _ _ _ _ _ _ _ _ _ _ _ _ _ _ _ _ _ _ _ _ _ _ _ _ _ _ _ _  w)) rfl rfl rfl ?_; intro r65 hr65
  refine doG_v (opV_loadA 7 ty63 rfl rfl rfl) rfl rfl rfl ?_
  refine doG_v (opV_loadA 8 ty63 rfl rfl rfl) rfl rfl rfl ?_
  refine doG_vg (F := po) (opV_call en51 rfl (fun w _ => pCompose _ _ _ _ _ _ _ _ _ _ _ _ _ _ _ _ _ _ _ _ _ _ _ _ _ _ _ _ _ _ _ _ _ _ _ _ _ _ _ _ _ _ _ _ _ _ _ _  w)) rfl rfl rfl ?_; intro r68 hr68
  refine doG_vg (F := vB) (opV_call en67 rfl (fun w _ => pWithin _ _ _ _ _ _ _ _ _ _ _ _ _ _ _ _ _ _ _ _ _ _ _ _ _ _ _ _ _ _ _ _ _ _ _ _ _ _ _ _ _ _ _ _ _ _ _ _  w)) rfl rfl rfl ?_; intro r69 hr69
  obtain rfl : r69 = true := (by have e65 : r65 = Po.mul pp r19 := (by rw [hpp]; exact hr65); have e68 : r68 = Po.mul r17 r19 := hr68; have e69 : r69 = Po.within r65 r68 := hr69; rw [e69, e65, e68]; exact (sub_pmul sp so).within)
  refine doG_v (opV_pick_t rfl rfl rfl rfl) rfl rfl rfl ?_
  refine doG_v (opV_move rfl) rfl rfl rfl ?_
  refine doG_v (opV_loadA 8 ty63 rfl rfl rfl) rfl rfl rfl ?_
  refine doG_v (opV_loadA 9 ty63 rfl rfl rfl) rfl rfl rfl ?_
  refine doG_vg (F := po) (opV_call en51 rfl (fun w _ => pCompose _ _ _ _ _ _ _ _ _ _ _ _ _ _ _ _ _ _ _ _ _ _ _ _ _ _ _ _ _ _ _ _ _ _ _ _ _ _ _ _ _ _ _ _ _ _ _ _  w)) rfl rfl rfl ?_; intro r74 hr74
  refine doG_v (opV_loadA 8 ty63 rfl rfl rfl) rfl rfl rfl ?_
  refine doG_v (opV_loadA 7 ty63 rfl rfl rfl) rfl rfl rfl ?_
  refine doG_vg (F := po) (opV_call en51 rfl (fun w _ => pCompose _ _ _ _ _ _ _ _ _ _ _ _ _ _ _ _ _ _ _ _ _ _ _ _ _ _ _ _ _ _ _ _ _ _ _ _ _ _ _ _ _ _ _ _ _ _ _ _  w)) rfl rfl rfl ?_; intro r77 hr77
  refine doG_vg (F := vB) (opV_call en67 rfl (fun w _ => pWithin _ _ _ _ _ _ _ _ _ _ _ _ _ _ _ _ _ _ _ _ _ _ _ _ _ _ _ _ _ _ _ _ _ _ _ _ _ _ _ _ _ _ _ _ _ _ _ _  w)) rfl rfl rfl ?_; intro r78 hr78
  obtain rfl : r78 = true := (by have e74 : r74 = Po.mul r19 pp := (by rw [hpp]; exact hr74); have e77 : r77 = Po.mul r19 r17 := hr77; have e78 : r78 = Po.within r74 r77 := hr78; rw [e78, e74, e77]; exact (sub_pmul so sp).within)
  refine doG_v (opV_pick_t rfl rfl rfl rfl) rfl rfl rfl ?_
  refine doG_v (opV_move rfl) rfl rfl rfl ?_
  refine doG_v (opV_loadA 9 ty63 rfl rfl rfl) rfl rfl rfl ?_
  refine doG_vg (F := po) (opV_call en68 rfl (fun w _ => pInverse _ _ _ _ _ _ _ _ _ _ _ _ _ _ _ _ _ _ _ _ _ _ _ _  w)) rfl rfl rfl ?_; intro r82 hr82
  refine doG_v (opV_loadA 7 ty63 rfl rfl rfl) rfl rfl rfl ?_
  refine doG_vg (F := po) (opV_call en68 rfl (fun w _ => pInverse _ _ _ _ _ _ _ _ _ _ _ _ _ _ _ _ _ _ _ _ _ _ _ _  w)) rfl rfl rfl ?_; intro r84 hr84
  refine doG_vg (F := vB) (opV_call en67 rfl (fun w _ => pWithin _ _ _ _ _ _ _ _ _ _ _ _ _ _ _ _ _ _ _ _ _ _ _ _ _ _ _ _ _ _ _ _ _ _ _ _ _ _ _ _ _ _ _ _ _ _ _ _  w)) rfl rfl rfl ?_; intro r85 hr85
  obtain rfl : r85 = true := (by have e82 : r82 = Po.inv pp := (by rw [hpp]; exact hr82); have e84 : r84 = Po.inv r17 := hr84; have e85 : r85 = Po.within r82 r84 := hr85; rw [e85, e82, e84]; exact (sub_pinv sp).within)
  refine doG_v (opV_pick_t rfl rfl rfl rfl) rfl rfl rfl ?_
  refine doG_v (opV_move rfl) rfl rfl rfl ?_
  refine doG_v (opV_loadA 9 ty63 rfl rfl rfl) rfl rfl rfl ?_
  refine doG_v (opV_fieldAddr fa63_1 rfl) rfl rfl rfl ?_
  refine doG_v (opV_loadA 8 ty34 rfl rfl rfl) rfl rfl rfl ?_
  refine doG_vg (F := v3) (opV_call en50 rfl (fun w _ => pApply _ _ _ _ _ _ _ _ _ _ _ _ _ _ _ _ _ _ _ _ _ _ _ _ _ _ _ _ _ _  w)) rfl rfl rfl ?_; intro r91 hr91
  refine doG_v (opV_loadA 7 ty63 rfl rfl rfl) rfl rfl rfl ?_
  refine doG_v (opV_fieldAddr fa63_1 rfl) rfl rfl rfl ?_
  refine doG_v (opV_loadA 8 ty34 rfl rfl rfl) rfl rfl rfl ?_
  refine doG_vg (F := v3) (opV_call en50 rfl (fun w _ => pApply _ _ _ _ _ _ _ _ _ _ _ _ _ _ _ _ _ _ _ _ _ _ _ _ _ _ _ _ _ _  w)) rfl rfl rfl ?_; intro r95 hr95
  refine doG_vg (F := vB) (opV_call en69 rfl (fun w _ => rWithinVec _ _ _ _ _ _ _ _ _ _ _ _  w)) rfl rfl rfl ?_; intro r96 hr96
  refine doG_v (opV_pick_t rfl rfl rfl rfl) rfl rfl rfl ?_
  refine doG_nil ?_
  refine tail_nil ?_
  refine doL_v (opV_assign rfl) rfl rfl rfl ?_
  refine doL_nil ?_
  refine post_then ?_
  refine doC_ret ?_
  refine post_rets (rs := [.tmp 4]) rfl (resC (resIs_tmp rfl) (resN)) (congrArg (vB) (?_ : _ = true))
  have e91 : r91 = Po.app pp r19.t := (by rw [hpp]; exact hr91); have e95 : r95 = Po.app r17 r19.t := hr95; have e96 : r96 = V3.within r91 r95 := hr96; rw [e96, e91, e95]; exact (sub_papp sp so.t).within

end Go.Proofs.Ytonampcmhhhffaa

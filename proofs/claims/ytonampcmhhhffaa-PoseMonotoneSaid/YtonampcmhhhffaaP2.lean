/- What making a motion computes. No condition. -/
import Derived.Test.YtonampcmhhhffaaProg
import Derived.Test.YtonampcmhhhffaaPose
import Derived.Test.YtonampcmhhhffaaA1
import Derived.Test.YtonampcmhhhffaaA2
import Derived.Test.YtonampcmhhhffaaM1
import Derived.Test.YtonampcmhhhffaaM2
import Derived.Test.YtonampcmhhhffaaSrc
import Derived.Test.YtonampcmhhhffaaP1
namespace Go.Proofs.Ytonampcmhhhffaa
open Go.Sx
theorem en28 : Enters Try.prog 28 := enters_of Try.func28 (by kernel_rfl) (by kernel_rfl)
theorem en27 : Enters Try.prog 27 := enters_of Try.func27 (by kernel_rfl) (by kernel_rfl)
theorem en54 : Enters Try.prog 54 := enters_of Try.func54 (by kernel_rfl) (by kernel_rfl)
theorem en64 : Enters Try.prog 64 := enters_of Try.func64 (by kernel_rfl) (by kernel_rfl)
theorem en65 : Enters Try.prog 65 := enters_of Try.func65 (by kernel_rfl) (by kernel_rfl)

theorem motion_at {L : List Int} {i k : Nat} (h : (k : Int) = srcR L (i + 3) 3) : motionN L i = k ∧ motionE L i = i + 4 + 3 * k := by
  have e : motionN L i = k := by unfold motionN; rw [← h]; simp
  exact ⟨e, by unfold motionE; rw [e]⟩
theorem motion_0 {L : List Int} {i : Nat} (h : (0 : Int) = srcR L (i + 3) 3) (b : Bool) : motion L i b = motion0 L i ∧ motionE L i = i + 4 := by
  obtain ⟨h1, h2⟩ := motion_at (k := 0) h
  exact ⟨by unfold motion; rw [h1]; rfl, h2⟩
theorem motion_1 {L : List Int} {i : Nat} (h : (1 : Int) = srcR L (i + 3) 3) (b : Bool) : motion L i b = stepP L (i + 4) b (motion0 L i) ∧ motionE L i = i + 7 := by
  obtain ⟨h1, h2⟩ := motion_at (k := 1) h
  exact ⟨by unfold motion; rw [h1]; rfl, h2⟩
theorem motion_2 {L : List Int} {i : Nat} (h : (2 : Int) = srcR L (i + 3) 3) (b : Bool) : motion L i b = stepP L (i + 7) b (stepP L (i + 4) b (motion0 L i)) ∧ motionE L i = i + 10 := by
  obtain ⟨h1, h2⟩ := motion_at (k := 2) h
  exact ⟨by unfold motion; rw [h1]; rfl, h2⟩

theorem motionT {b : Nat} {sl : Value} {L : List Int} {i : Nat} (w : World) (hs : Src w b sl L i) : Calls Try.prog 49 [.pointer (some ⟨b, 0, none⟩), .bool true].toArray w (Rets (po (motion L i true)) (srcW w b sl L (motionE L i))) := by
  refine calls_src (n := 41) hs Try.func49 rfl rfl rfl ?_
  refine doC_seq ?_
  refine doC_region ?_
  refine doL_alloc 4 ze63 rfl rfl rfl ?_; intro b4
  refine doL_nil ?_
  refine post_then ?_
  refine doC_seq ?_
  refine doC_region ?_
  refine doL_v (opV_move rfl) rfl rfl rfl ?_
  refine doL_srcA (F := vI) hs en28 rfl (fun w' h => srcSigned _ (by first | omega | assumption | (unfold In64; omega) | decide) w' h) rfl rfl ?_; intro r10 hr10
  have br10 := srcS_b hr10 (by first | decide | omega)
  refine doL_v (opV_move rfl) rfl rfl rfl ?_
  refine doL_srcA (F := vI) hs en28 rfl (fun w' h => srcSigned _ (by first | omega | assumption | (unfold In64; omega) | decide) w' h) rfl rfl ?_; intro r12 hr12
  have br12 := srcS_b hr12 (by first | decide | omega)
  refine doL_v (opV_move rfl) rfl rfl rfl ?_
  refine doL_srcA (F := vI) hs en28 rfl (fun w' h => srcSigned _ (by first | omega | assumption | (unfold In64; omega) | decide) w' h) rfl rfl ?_; intro r14 hr14
  have br14 := srcS_b hr14 (by first | decide | omega)
  refine doL_v (opV_build la38 rfl rfl) rfl rfl rfl ?_
  refine doL_vg (F := v3) (opV_call en27 rfl (fun w _ => rPoint _ _ _  w)) rfl rfl rfl ?_; intro r16 hr16
  refine doL_vg (F := po) (opV_call en54 rfl (fun w _ => qShift _ _ _ _ _ _  w)) rfl rfl rfl ?_; intro r17 hr17
  refine doL_alloc 5 ze63 rfl rfl rfl ?_; intro b5
  refine doL_store 5 ty63 rfl rfl rfl rfl rfl rfl rfl rfl ?_
  refine doL_nil ?_
  refine post_then ?_
  refine doC_seq ?_
  refine doC_seq ?_
  refine doC_region ?_
  refine doL_v (opV_move rfl) rfl rfl rfl ?_
  refine doL_srcA (F := vI) hs en30 rfl (fun w' h => srcNext _ (by first | omega | assumption | (unfold In64; omega) | decide) w' h) rfl rfl ?_; intro r19 hr19
  have br19 := srcR_b hr19 (by first | decide | omega)
  refine doL_v (opV_assign rfl) rfl rfl rfl ?_
  refine doL_nil ?_
  refine post_then ?_
  refine doC_block ?_
  refine doC_rounds 3 ?_
  refine doR_succ ?_
  refine doC_seq ?_
  refine doC_seq ?_
  rcases (show r19 = 0 ∨ r19 = 1 ∨ r19 = 2 by omega) with rfl | rfl | rfl
  ·
    rw [(motion_0 hr19 true).1, (motion_0 hr19 true).2]
    refine doC_region ?_
    refine doL_v (opV_move rfl) rfl rfl rfl ?_
    refine doL_v (opV_gtr rfl rfl) rfl rfl rfl ?_
    refine doL_nil ?_
    refine post_then ?_
    refine doC_cond_f rfl (by decide) ?_
    refine doC_exit ?_
    refine post_then_exit ?_
    refine post_then_exit ?_
    refine post_block_exit ?_
    refine post_then ?_
    refine doC_seq ?_
    refine doC_region ?_
    refine doL_v (opV_loadA 5 ty63 rfl rfl rfl) rfl rfl rfl ?_
    refine doL_store 4 ty63 rfl rfl rfl rfl rfl rfl rfl rfl ?_
    refine doL_nil ?_
    refine post_then ?_
    refine doC_ret ?_
    refine post_rets (rs := [.cell 4 63]) rfl (resC (resIs_cell 4 rfl rfl ty63 rfl) (resN)) (congrArg (po) (?_ : ⟨⟨⟨⟨_, _⟩, ⟨_, _⟩, ⟨_, _⟩⟩, ⟨⟨_, _⟩, ⟨_, _⟩, ⟨_, _⟩⟩, ⟨⟨_, _⟩, ⟨_, _⟩, ⟨_, _⟩⟩⟩, ⟨⟨_, _⟩, ⟨_, _⟩, ⟨_, _⟩⟩⟩ = motion0 L i))
    have e17 : r17 = Po.shift r16 := hr17
    show r17 = motion0 L i
    rw [e17, hr16, hr10, hr12, hr14]; rfl
  ·
    rw [(motion_1 hr19 true).1, (motion_1 hr19 true).2]
    refine doC_region ?_
    refine doL_v (opV_move rfl) rfl rfl rfl ?_
    refine doL_v (opV_gtr rfl rfl) rfl rfl rfl ?_
    refine doL_nil ?_
    refine post_then ?_
    refine doC_cond_t rfl (by decide) ?_
    refine doC_skip ?_
    refine post_then ?_
    refine doC_seq ?_
    refine doC_block ?_
    refine doC_seq ?_
    refine doC_region ?_
    refine doL_v (opV_move rfl) rfl rfl rfl ?_
    refine doL_srcA (F := vI) hs en28 rfl (fun w' h => srcSigned _ (by first | omega | assumption | (unfold In64; omega) | decide) w' h) rfl rfl ?_; intro r25 hr25
    have br25 := srcS_b hr25 (by first | decide | omega)
    refine doL_v (opV_assign rfl) rfl rfl rfl ?_
    refine doL_nil ?_
    refine post_then ?_
    refine doC_seq ?_
    refine doC_region ?_
    refine doL_v (opV_move rfl) rfl rfl rfl ?_
    refine doL_srcA (F := vI) hs en30 rfl (fun w' h => srcNext _ (by first | omega | assumption | (unfold In64; omega) | decide) w' h) rfl rfl ?_; intro r27 hr27
    have br27 := srcR_b hr27 (by first | decide | omega)
    refine doL_v (opV_assign rfl) rfl rfl rfl ?_
    refine doL_nil ?_
    refine post_then ?_
    refine doC_seq ?_
    refine doC_seq ?_
    refine doC_region ?_
    refine doL_v (opV_move rfl) rfl rfl rfl ?_
    refine doL_v (opV_not rfl) rfl rfl rfl ?_
    refine doL_nil ?_
    refine post_then ?_
    refine doC_cond_f rfl (rfl) ?_
    refine doC_skip ?_
    refine post_then ?_
    refine doC_srcA 10 [2] hs mo (by kernel_rfl) ?_
    simp only [List.take_succ_cons, List.take_zero, List.drop_succ_cons, List.drop_zero]
    refine doM_v (fun _ => opV_loadA 5 ty63 rfl rfl rfl) rfl rfl rfl rfl ?_
    refine doM_v (fun _ => opV_move rfl) rfl rfl rfl rfl ?_
    refine doM_srcA (F := vI) hs en30 rfl (fun w' h => srcNext _ (by first | omega | assumption | (unfold In64; omega) | decide) w' h) rfl rfl rfl ?_; intro r32 hr32
    have br32 := srcR_b hr32 (by first | decide | omega)
    refine doM_v (fun _ => opV_move rfl) rfl rfl rfl rfl ?_
    refine doM_v (fun _ => opV_move rfl) rfl rfl rfl rfl ?_
    refine doM_v (fun _ => opV_move rfl) rfl rfl rfl rfl ?_
    refine doM_v (fun _ => opV_add rfl rfl (by first | exact i64_in ⟨by omega, by omega⟩ | rfl)) rfl rfl rfl rfl ?_
    refine doM_v (fun _ => opV_build la23 rfl rfl) rfl rfl rfl rfl ?_
    refine doM_vg (F := po) (fun _ => opV_call en64 rfl (fun w _ => qTurn _ _ _  w)) rfl rfl rfl rfl ?_; intro r38 hr38
    refine doM_vg (F := po) (fun _ => opV_call en65 rfl (fun w _ => qCompose _ _ _ _ _ _ _ _ _ _ _ _ _ _ _ _ _ _ _ _ _ _ _ _ _ _ _ _ _ _ _ _ _ _ _ _ _ _ _ _ _ _ _ _ _ _ _ _  w)) rfl rfl rfl rfl ?_; intro r39 hr39
    refine doM_nil ?_
    refine tail_nil ?_
    refine doL_store 5 ty63 rfl rfl rfl rfl rfl rfl rfl rfl ?_
    refine doL_nil ?_
    refine post_block_normal ?_
    refine post_then ?_
    refine doC_region ?_
    refine doL_v (opV_move rfl) rfl rfl rfl ?_
    refine doL_v (opV_sub rfl rfl (by first | exact i64_in ⟨by omega, by omega⟩ | rfl)) rfl rfl rfl ?_
    refine doL_v (opV_assign rfl) rfl rfl rfl ?_
    refine doL_nil ?_
    refine post_rounds ?_
    refine doR_succ ?_
    refine doC_seq ?_
    refine doC_seq ?_
    refine doC_region ?_
    refine doL_v (opV_move rfl) rfl rfl rfl ?_
    refine doL_v (opV_gtr rfl rfl) rfl rfl rfl ?_
    refine doL_nil ?_
    refine post_then ?_
    refine doC_cond_f rfl (by decide) ?_
    refine doC_exit ?_
    refine post_then_exit ?_
    refine post_then_exit ?_
    refine post_block_exit ?_
    refine post_then ?_
    refine doC_seq ?_
    refine doC_region ?_
    refine doL_v (opV_loadA 5 ty63 rfl rfl rfl) rfl rfl rfl ?_
    refine doL_store 4 ty63 rfl rfl rfl rfl rfl rfl rfl rfl ?_
    refine doL_nil ?_
    refine post_then ?_
    refine doC_ret ?_
    refine post_rets (rs := [.cell 4 63]) rfl (resC (resIs_cell 4 rfl rfl ty63 rfl) (resN)) (congrArg (po) (?_ : ⟨⟨⟨⟨_, _⟩, ⟨_, _⟩, ⟨_, _⟩⟩, ⟨⟨_, _⟩, ⟨_, _⟩, ⟨_, _⟩⟩, ⟨⟨_, _⟩, ⟨_, _⟩, ⟨_, _⟩⟩⟩, ⟨⟨_, _⟩, ⟨_, _⟩, ⟨_, _⟩⟩⟩ = stepP L (i + 4) true (motion0 L i)))
    have e17 : r17 = Po.shift r16 := hr17
    have e39 : r39 = Po.mul r17 r38 := hr39
    have e38 : r38 = Po.turn r32 ⟨r25, r25 + r27⟩ := hr38
    show r39 = stepP L (i + 4) true (motion0 L i)
    rw [e39, e38, hr32, hr25, hr27, e17, hr16, hr10, hr12, hr14]; rfl
  ·
    rw [(motion_2 hr19 true).1, (motion_2 hr19 true).2]
    refine doC_region ?_
    refine doL_v (opV_move rfl) rfl rfl rfl ?_
    refine doL_v (opV_gtr rfl rfl) rfl rfl rfl ?_
    refine doL_nil ?_
    refine post_then ?_
    refine doC_cond_t rfl (by decide) ?_
    refine doC_skip ?_
    refine post_then ?_
    refine doC_seq ?_
    refine doC_block ?_
    refine doC_seq ?_
    refine doC_region ?_
    refine doL_v (opV_move rfl) rfl rfl rfl ?_
    refine doL_srcA (F := vI) hs en28 rfl (fun w' h => srcSigned _ (by first | omega | assumption | (unfold In64; omega) | decide) w' h) rfl rfl ?_; intro r25 hr25
    have br25 := srcS_b hr25 (by first | decide | omega)
    refine doL_v (opV_assign rfl) rfl rfl rfl ?_
    refine doL_nil ?_
    refine post_then ?_
    refine doC_seq ?_
    refine doC_region ?_
    refine doL_v (opV_move rfl) rfl rfl rfl ?_
    refine doL_srcA (F := vI) hs en30 rfl (fun w' h => srcNext _ (by first | omega | assumption | (unfold In64; omega) | decide) w' h) rfl rfl ?_; intro r27 hr27
    have br27 := srcR_b hr27 (by first | decide | omega)
    refine doL_v (opV_assign rfl) rfl rfl rfl ?_
    refine doL_nil ?_
    refine post_then ?_
    refine doC_seq ?_
    refine doC_seq ?_
    refine doC_region ?_
    refine doL_v (opV_move rfl) rfl rfl rfl ?_
    refine doL_v (opV_not rfl) rfl rfl rfl ?_
    refine doL_nil ?_
    refine post_then ?_
    refine doC_cond_f rfl (rfl) ?_
    refine doC_skip ?_
    refine post_then ?_
    refine doC_srcA 10 [2] hs mo (by kernel_rfl) ?_
    simp only [List.take_succ_cons, List.take_zero, List.drop_succ_cons, List.drop_zero]
    refine doM_v (fun _ => opV_loadA 5 ty63 rfl rfl rfl) rfl rfl rfl rfl ?_
    refine doM_v (fun _ => opV_move rfl) rfl rfl rfl rfl ?_
    refine doM_srcA (F := vI) hs en30 rfl (fun w' h => srcNext _ (by first | omega | assumption | (unfold In64; omega) | decide) w' h) rfl rfl rfl ?_; intro r32 hr32
    have br32 := srcR_b hr32 (by first | decide | omega)
    refine doM_v (fun _ => opV_move rfl) rfl rfl rfl rfl ?_
    refine doM_v (fun _ => opV_move rfl) rfl rfl rfl rfl ?_
    refine doM_v (fun _ => opV_move rfl) rfl rfl rfl rfl ?_
    refine doM_v (fun _ => opV_add rfl rfl (by first | exact i64_in ⟨by omega, by omega⟩ | rfl)) rfl rfl rfl rfl ?_
    refine doM_v (fun _ => opV_build la23 rfl rfl) rfl rfl rfl rfl ?_
    refine doM_vg (F := po) (fun _ => opV_call en64 rfl (fun w _ => qTurn _ _ _  w)) rfl rfl rfl rfl ?_; intro r38 hr38
    refine doM_vg (F := po) (fun _ => opV_call en65 rfl (fun w _ => qCompose _ _ _ _ _ _ _ _ _ _ _ _ _ _ _ _ _ _ _ _ _ _ _ _ _ _ _ _ _ _ _ _ _ _ _ _ _ _ _ _ _ _ _ _ _ _ _ _  w)) rfl rfl rfl rfl ?_; intro r39 hr39
    refine doM_nil ?_
    refine tail_nil ?_
    refine doL_store 5 ty63 rfl rfl rfl rfl rfl rfl rfl rfl ?_
    refine doL_nil ?_
    refine post_block_normal ?_
    refine post_then ?_
    refine doC_region ?_
    refine doL_v (opV_move rfl) rfl rfl rfl ?_
    refine doL_v (opV_sub rfl rfl (by first | exact i64_in ⟨by omega, by omega⟩ | rfl)) rfl rfl rfl ?_
    refine doL_v (opV_assign rfl) rfl rfl rfl ?_
    refine doL_nil ?_
    refine post_rounds ?_
    refine doR_succ ?_
    refine doC_seq ?_
    refine doC_seq ?_
    refine doC_region ?_
    refine doL_v (opV_move rfl) rfl rfl rfl ?_
    refine doL_v (opV_gtr rfl rfl) rfl rfl rfl ?_
    refine doL_nil ?_
    refine post_then ?_
    refine doC_cond_t rfl (by decide) ?_
    refine doC_skip ?_
    refine post_then ?_
    refine doC_seq ?_
    refine doC_block ?_
    refine doC_seq ?_
    refine doC_region ?_
    refine doL_v (opV_move rfl) rfl rfl rfl ?_
    refine doL_srcA (F := vI) hs en28 rfl (fun w' h => srcSigned _ (by first | omega | assumption | (unfold In64; omega) | decide) w' h) rfl rfl ?_; intro r25_2 hr25_2
    have br25_2 := srcS_b hr25_2 (by first | decide | omega)
    refine doL_v (opV_assign rfl) rfl rfl rfl ?_
    refine doL_nil ?_
    refine post_then ?_
    refine doC_seq ?_
    refine doC_region ?_
    refine doL_v (opV_move rfl) rfl rfl rfl ?_
    refine doL_srcA (F := vI) hs en30 rfl (fun w' h => srcNext _ (by first | omega | assumption | (unfold In64; omega) | decide) w' h) rfl rfl ?_; intro r27_2 hr27_2
    have br27_2 := srcR_b hr27_2 (by first | decide | omega)
    refine doL_v (opV_assign rfl) rfl rfl rfl ?_
    refine doL_nil ?_
    refine post_then ?_
    refine doC_seq ?_
    refine doC_seq ?_
    refine doC_region ?_
    refine doL_v (opV_move rfl) rfl rfl rfl ?_
    refine doL_v (opV_not rfl) rfl rfl rfl ?_
    refine doL_nil ?_
    refine post_then ?_
    refine doC_cond_f rfl (rfl) ?_
    refine doC_skip ?_
    refine post_then ?_
    refine doC_srcA 10 [2] hs mo (by kernel_rfl) ?_
    simp only [List.take_succ_cons, List.take_zero, List.drop_succ_cons, List.drop_zero]
    refine doM_v (fun _ => opV_loadA 5 ty63 rfl rfl rfl) rfl rfl rfl rfl ?_
    refine doM_v (fun _ => opV_move rfl) rfl rfl rfl rfl ?_
    refine doM_srcA (F := vI) hs en30 rfl (fun w' h => srcNext _ (by first | omega | assumption | (unfold In64; omega) | decide) w' h) rfl rfl rfl ?_; intro r32_2 hr32_2
    have br32_2 := srcR_b hr32_2 (by first | decide | omega)
    refine doM_v (fun _ => opV_move rfl) rfl rfl rfl rfl ?_
    refine doM_v (fun _ => opV_move rfl) rfl rfl rfl rfl ?_
    refine doM_v (fun _ => opV_move rfl) rfl rfl rfl rfl ?_
    refine doM_v (fun _ => opV_add rfl rfl (by first | exact i64_in ⟨by omega, by omega⟩ | rfl)) rfl rfl rfl rfl ?_
    refine doM_v (fun _ => opV_build la23 rfl rfl) rfl rfl rfl rfl ?_
    refine doM_vg (F := po) (fun _ => opV_call en64 rfl (fun w _ => qTurn _ _ _  w)) rfl rfl rfl rfl ?_; intro r38_2 hr38_2
    refine doM_vg (F := po) (fun _ => opV_call en65 rfl (fun w _ => qCompose _ _ _ _ _ _ _ _ _ _ _ _ _ _ _ _ _ _ _ _ _ _ _ _ _ _ _ _ _ _ _ _ _ _ _ _ _ _ _ _ _ _ _ _ _ _ _ _  w)) rfl rfl rfl rfl ?_; intro r39_2 hr39_2
    refine doM_nil ?_
    refine tail_nil ?_
    refine doL_store 5 ty63 rfl rfl rfl rfl rfl rfl rfl rfl ?_
    refine doL_nil ?_
    refine post_block_normal ?_
    refine post_then ?_
    refine doC_region ?_
    refine doL_v (opV_move rfl) rfl rfl rfl ?_
    refine doL_v (opV_sub rfl rfl (by first | exact i64_in ⟨by omega, by omega⟩ | rfl)) rfl rfl rfl ?_
    refine doL_v (opV_assign rfl) rfl rfl rfl ?_
    refine doL_nil ?_
    refine post_rounds ?_
    refine doR_succ ?_
    refine doC_seq ?_
    refine doC_seq ?_
    refine doC_region ?_
    refine doL_v (opV_move rfl) rfl rfl rfl ?_
    refine doL_v (opV_gtr rfl rfl) rfl rfl rfl ?_
    refine doL_nil ?_
    refine post_then ?_
    refine doC_cond_f rfl (by decide) ?_
    refine doC_exit ?_
    refine post_then_exit ?_
    refine post_then_exit ?_
    refine post_block_exit ?_
    refine post_then ?_
    refine doC_seq ?_
    refine doC_region ?_
    refine doL_v (opV_loadA 5 ty63 rfl rfl rfl) rfl rfl rfl ?_
    refine doL_store 4 ty63 rfl rfl rfl rfl rfl rfl rfl rfl ?_
    refine doL_nil ?_
    refine post_then ?_
    refine doC_ret ?_
    refine post_rets (rs := [.cell 4 63]) rfl (resC (resIs_cell 4 rfl rfl ty63 rfl) (resN)) (congrArg (po) (?_ : ⟨⟨⟨⟨_, _⟩, ⟨_, _⟩, ⟨_, _⟩⟩, ⟨⟨_, _⟩, ⟨_, _⟩, ⟨_, _⟩⟩, ⟨⟨_, _⟩, ⟨_, _⟩, ⟨_, _⟩⟩⟩, ⟨⟨_, _⟩, ⟨_, _⟩, ⟨_, _⟩⟩⟩ = stepP L (i + 7) true (stepP L (i + 4) true (motion0 L i))))
    have e17 : r17 = Po.shift r16 := hr17
    have e39 : r39 = Po.mul r17 r38 := hr39
    have e38 : r38 = Po.turn r32 ⟨r25, r25 + r27⟩ := hr38
    have e39_2 : r39_2 = Po.mul r39 r38_2 := hr39_2
    have e38_2 : r38_2 = Po.turn r32_2 ⟨r25_2, r25_2 + r27_2⟩ := hr38_2
    show r39_2 = stepP L (i + 7) true (stepP L (i + 4) true (motion0 L i))
    rw [e39_2, e38_2, hr32_2, hr25_2, hr27_2, e39, e38, hr32, hr25, hr27, e17, hr16, hr10, hr12, hr14]; rfl

theorem motionF {b : Nat} {sl : Value} {L : List Int} {i : Nat} (w : World) (hs : Src w b sl L i) : Calls Try.prog 49 [.pointer (some ⟨b, 0, none⟩), .bool false].toArray w (Rets (po (motion L i false)) (srcW w b sl L (motionE L i))) := by
  refine calls_src (n := 41) hs Try.func49 rfl rfl rfl ?_
  refine doC_seq ?_
  refine doC_region ?_
  refine doL_alloc 4 ze63 rfl rfl rfl ?_; intro b4
  refine doL_nil ?_
  refine post_then ?_
  refine doC_seq ?_
  refine doC_region ?_
  refine doL_v (opV_move rfl) rfl rfl rfl ?_
  refine doL_srcA (F := vI) hs en28 rfl (fun w' h => srcSigned _ (by first | omega | assumption | (unfold In64; omega) | decide) w' h) rfl rfl ?_; intro r10 hr10
  have br10 := srcS_b hr10 (by first | decide | omega)
  refine doL_v (opV_move rfl) rfl rfl rfl ?_
  refine doL_srcA (F := vI) hs en28 rfl (fun w' h => srcSigned _ (by first | omega | assumption | (unfold In64; omega) | decide) w' h) rfl rfl ?_; intro r12 hr12
  have br12 := srcS_b hr12 (by first | decide | omega)
  refine doL_v (opV_move rfl) rfl rfl rfl ?_
  refine doL_srcA (F := vI) hs en28 rfl (fun w' h => srcSigned _ (by first | omega | assumption | (unfold In64; omega) | decide) w' h) rfl rfl ?_; intro r14 hr14
  have br14 := srcS_b hr14 (by first | decide | omega)
  refine doL_v (opV_build la38 rfl rfl) rfl rfl rfl ?_
  refine doL_vg (F := v3) (opV_call en27 rfl (fun w _ => rPoint _ _ _  w)) rfl rfl rfl ?_; intro r16 hr16
  refine doL_vg (F := po) (opV_call en54 rfl (fun w _ => qShift _ _ _ _ _ _  w)) rfl rfl rfl ?_; intro r17 hr17
  refine doL_alloc 5 ze63 rfl rfl rfl ?_; intro b5
  refine doL_store 5 ty63 rfl rfl rfl rfl rfl rfl rfl rfl ?_
  refine doL_nil ?_
  refine post_then ?_
  refine doC_seq ?_
  refine doC_seq ?_
  refine doC_region ?_
  refine doL_v (opV_move rfl) rfl rfl rfl ?_
  refine doL_srcA (F := vI) hs en30 rfl (fun w' h => srcNext _ (by first | omega | assumption | (unfold In64; omega) | decide) w' h) rfl rfl ?_; intro r19 hr19
  have br19 := srcR_b hr19 (by first | decide | omega)
  refine doL_v (opV_assign rfl) rfl rfl rfl ?_
  refine doL_nil ?_
  refine post_then ?_
  refine doC_block ?_
  refine doC_rounds 3 ?_
  refine doR_succ ?_
  refine doC_seq ?_
  refine doC_seq ?_
  rcases (show r19 = 0 ∨ r19 = 1 ∨ r19 = 2 by omega) with rfl | rfl | rfl
  ·
    rw [(motion_0 hr19 false).1, (motion_0 hr19 false).2]
    refine doC_region ?_
    refine doL_v (opV_move rfl) rfl rfl rfl ?_
    refine doL_v (opV_gtr rfl rfl) rfl rfl rfl ?_
    refine doL_nil ?_
    refine post_then ?_
    refine doC_cond_f rfl (by decide) ?_
    refine doC_exit ?_
    refine post_then_exit ?_
    refine post_then_exit ?_
    refine post_block_exit ?_
    refine post_then ?_
    refine doC_seq ?_
    refine doC_region ?_
    refine doL_v (opV_loadA 5 ty63 rfl rfl rfl) rfl rfl rfl ?_
    refine doL_store 4 ty63 rfl rfl rfl rfl rfl rfl rfl rfl ?_
    refine doL_nil ?_
    refine post_then ?_
    refine doC_ret ?_
    refine post_rets (rs := [.cell 4 63]) rfl (resC (resIs_cell 4 rfl rfl ty63 rfl) (resN)) (congrArg (po) (?_ : ⟨⟨⟨⟨_, _⟩, ⟨_, _⟩, ⟨_, _⟩⟩, ⟨⟨_, _⟩, ⟨_, _⟩, ⟨_, _⟩⟩, ⟨⟨_, _⟩, ⟨_, _⟩, ⟨_, _⟩⟩⟩, ⟨⟨_, _⟩, ⟨_, _⟩, ⟨_, _⟩⟩⟩ = motion0 L i))
    have e17 : r17 = Po.shift r16 := hr17
    show r17 = motion0 L i
    rw [e17, hr16, hr10, hr12, hr14]; rfl
  ·
    rw [(motion_1 hr19 false).1, (motion_1 hr19 false).2]
    refine doC_region ?_
    refine doL_v (opV_move rfl) rfl rfl rfl ?_
    refine doL_v (opV_gtr rfl rfl) rfl rfl rfl ?_
    refine doL_nil ?_
    refine post_then ?_
    refine doC_cond_t rfl (by decide) ?_
    refine doC_skip ?_
    refine post_then ?_
    refine doC_seq ?_
    refine doC_block ?_
    refine doC_seq ?_
    refine doC_region ?_
    refine doL_v (opV_move rfl) rfl rfl rfl ?_
    refine doL_srcA (F := vI) hs en28 rfl (fun w' h => srcSigned _ (by first | omega | assumption | (unfold In64; omega) | decide) w' h) rfl rfl ?_; intro r25 hr25
    have br25 := srcS_b hr25 (by first | decide | omega)
    refine doL_v (opV_assign rfl) rfl rfl rfl ?_
    refine doL_nil ?_
    refine post_then ?_
    refine doC_seq ?_
    refine doC_region ?_
    refine doL_v (opV_move rfl) rfl rfl rfl ?_
    refine doL_srcA (F := vI) hs en30 rfl (fun w' h => srcNext _ (by first | omega | assumption | (unfold In64; omega) | decide) w' h) rfl rfl ?_; intro r27 hr27
    have br27 := srcR_b hr27 (by first | decide | omega)
    refine doL_v (opV_assign rfl) rfl rfl rfl ?_
    refine doL_nil ?_
    refine post_then ?_
    refine doC_seq ?_
    refine doC_seq ?_
    refine doC_region ?_
    refine doL_v (opV_move rfl) rfl rfl rfl ?_
    refine doL_v (opV_not rfl) rfl rfl rfl ?_
    refine doL_nil ?_
    refine post_then ?_
    refine doC_cond_t rfl (rfl) ?_
    refine doC_region ?_
    refine doL_v (opV_assign rfl) rfl rfl rfl ?_
    refine doL_nil ?_
    refine post_then ?_
    refine doC_srcA 10 [2] hs mo (by kernel_rfl) ?_
    simp only [List.take_succ_cons, List.take_zero, List.drop_succ_cons, List.drop_zero]
    refine doM_v (fun _ => opV_loadA 5 ty63 rfl rfl rfl) rfl rfl rfl rfl ?_
    refine doM_v (fun _ => opV_move rfl) rfl rfl rfl rfl ?_
    refine doM_srcA (F := vI) hs en30 rfl (fun w' h => srcNext _ (by first | omega | assumption | (unfold In64; omega) | decide) w' h) rfl rfl rfl ?_; intro r32 hr32
    have br32 := srcR_b hr32 (by first | decide | omega)
    refine doM_v (fun _ => opV_move rfl) rfl rfl rfl rfl ?_
    refine doM_v (fun _ => opV_move rfl) rfl rfl rfl rfl ?_
    refine doM_v (fun _ => opV_move rfl) rfl rfl rfl rfl ?_
    refine doM_v (fun _ => opV_add rfl rfl (by first | exact i64_in ⟨by omega, by omega⟩ | rfl)) rfl rfl rfl rfl ?_
    refine doM_v (fun _ => opV_build la23 rfl rfl) rfl rfl rfl rfl ?_
    refine doM_vg (F := po) (fun _ => opV_call en64 rfl (fun w _ => qTurn _ _ _  w)) rfl rfl rfl rfl ?_; intro r38 hr38
    refine doM_vg (F := po) (fun _ => opV_call en65 rfl (fun w _ => qCompose _ _ _ _ _ _ _ _ _ _ _ _ _ _ _ _ _ _ _ _ _ _ _ _ _ _ _ _ _ _ _ _ _ _ _ _ _ _ _ _ _ _ _ _ _ _ _ _  w)) rfl rfl rfl rfl ?_; intro r39 hr39
    refine doM_nil ?_
    refine tail_nil ?_
    refine doL_store 5 ty63 rfl rfl rfl rfl rfl rfl rfl rfl ?_
    refine doL_nil ?_
    refine post_block_normal ?_
    refine post_then ?_
    refine doC_region ?_
    refine doL_v (opV_move rfl) rfl rfl rfl ?_
    refine doL_v (opV_sub rfl rfl (by first | exact i64_in ⟨by omega, by omega⟩ | rfl)) rfl rfl rfl ?_
    refine doL_v (opV_assign rfl) rfl rfl rfl ?_
    refine doL_nil ?_
    refine post_rounds ?_
    refine doR_succ ?_
    refine doC_seq ?_
    refine doC_seq ?_
    refine doC_region ?_
    refine doL_v (opV_move rfl) rfl rfl rfl ?_
    refine doL_v (opV_gtr rfl rfl) rfl rfl rfl ?_
    refine doL_nil ?_
    refine post_then ?_
    refine doC_cond_f rfl (by decide) ?_
    refine doC_exit ?_
    refine post_then_exit ?_
    refine post_then_exit ?_
    refine post_block_exit ?_
    refine post_then ?_
    refine doC_seq ?_
    refine doC_region ?_
    refine doL_v (opV_loadA 5 ty63 rfl rfl rfl) rfl rfl rfl ?_
    refine doL_store 4 ty63 rfl rfl rfl rfl rfl rfl rfl rfl ?_
    refine doL_nil ?_
    refine post_then ?_
    refine doC_ret ?_
    refine post_rets (rs := [.cell 4 63]) rfl (resC (resIs_cell 4 rfl rfl ty63 rfl) (resN)) (congrArg (po) (?_ : ⟨⟨⟨⟨_, _⟩, ⟨_, _⟩, ⟨_, _⟩⟩, ⟨⟨_, _⟩, ⟨_, _⟩, ⟨_, _⟩⟩, ⟨⟨_, _⟩, ⟨_, _⟩, ⟨_, _⟩⟩⟩, ⟨⟨_, _⟩, ⟨_, _⟩, ⟨_, _⟩⟩⟩ = stepP L (i + 4) false (motion0 L i)))
    have e17 : r17 = Po.shift r16 := hr17
    have e39 : r39 = Po.mul r17 r38 := hr39
    have e38 : r38 = Po.turn r32 ⟨r25, r25 + 0⟩ := hr38
    show r39 = stepP L (i + 4) false (motion0 L i)
    rw [e39, e38, hr32, hr25, e17, hr16, hr10, hr12, hr14]; rfl
  ·
    rw [(motion_2 hr19 false).1, (motion_2 hr19 false).2]
    refine doC_region ?_
    refine doL_v (opV_move rfl) rfl rfl rfl ?_
    refine doL_v (opV_gtr rfl rfl) rfl rfl rfl ?_
    refine doL_nil ?_
    refine post_then ?_
    refine doC_cond_t rfl (by decide) ?_
    refine doC_skip ?_
    refine post_then ?_
    refine doC_seq ?_
    refine doC_block ?_
    refine doC_seq ?_
    refine doC_region ?_
    refine doL_v (opV_move rfl) rfl rfl rfl ?_
    refine doL_srcA (F := vI) hs en28 rfl (fun w' h => srcSigned _ (by first | omega | assumption | (unfold In64; omega) | decide) w' h) rfl rfl ?_; intro r25 hr25
    have br25 := srcS_b hr25 (by first | decide | omega)
    refine doL_v (opV_assign rfl) rfl rfl rfl ?_
    refine doL_nil ?_
    refine post_then ?_
    refine doC_seq ?_
    refine doC_region ?_
    refine doL_v (opV_move rfl) rfl rfl rfl ?_
    refine doL_srcA (F := vI) hs en30 rfl (fun w' h => srcNext _ (by first | omega | assumption | (unfold In64; omega) | decide) w' h) rfl rfl ?_; intro r27 hr27
    have br27 := srcR_b hr27 (by first | decide | omega)
    refine doL_v (opV_assign rfl) rfl rfl rfl ?_
    refine doL_nil ?_
    refine post_then ?_
    refine doC_seq ?_
    refine doC_seq ?_
    refine doC_region ?_
    refine doL_v (opV_move rfl) rfl rfl rfl ?_
    refine doL_v (opV_not rfl) rfl rfl rfl ?_
    refine doL_nil ?_
    refine post_then ?_
    refine doC_cond_t rfl (rfl) ?_
    refine doC_region ?_
    refine doL_v (opV_assign rfl) rfl rfl rfl ?_
    refine doL_nil ?_
    refine post_then ?_
    refine doC_srcA 10 [2] hs mo (by kernel_rfl) ?_
    simp only [List.take_succ_cons, List.take_zero, List.drop_succ_cons, List.drop_zero]
    refine doM_v (fun _ => opV_loadA 5 ty63 rfl rfl rfl) rfl rfl rfl rfl ?_
    refine doM_v (fun _ => opV_move rfl) rfl rfl rfl rfl ?_
    refine doM_srcA (F := vI) hs en30 rfl (fun w' h => srcNext _ (by first | omega | assumption | (unfold In64; omega) | decide) w' h) rfl rfl rfl ?_; intro r32 hr32
    have br32 := srcR_b hr32 (by first | decide | omega)
    refine doM_v (fun _ => opV_move rfl) rfl rfl rfl rfl ?_
    refine doM_v (fun _ => opV_move rfl) rfl rfl rfl rfl ?_
    refine doM_v (fun _ => opV_move rfl) rfl rfl rfl rfl ?_
    refine doM_v (fun _ => opV_add rfl rfl (by first | exact i64_in ⟨by omega, by omega⟩ | rfl)) rfl rfl rfl rfl ?_
    refine doM_v (fun _ => opV_build la23 rfl rfl) rfl rfl rfl rfl ?_
    refine doM_vg (F := po) (fun _ => opV_call en64 rfl (fun w _ => qTurn _ _ _  w)) rfl rfl rfl rfl ?_; intro r38 hr38
    refine doM_vg (F := po) (fun _ => opV_call en65 rfl (fun w _ => qCompose _ _ _ _ _ _ _ _ _ _ _ _ _ _ _ _ _ _ _ _ _ _ _ _ _ _ _ _ _ _ _ _ _ _ _ _ _ _ _ _ _ _ _ _ _ _ _ _  w)) rfl rfl rfl rfl ?_; intro r39 hr39
    refine doM_nil ?_
    refine tail_nil ?_
    refine doL_store 5 ty63 rfl rfl rfl rfl rfl rfl rfl rfl ?_
    refine doL_nil ?_
    refine post_block_normal ?_
    refine post_then ?_
    refine doC_region ?_
    refine doL_v (opV_move rfl) rfl rfl rfl ?_
    refine doL_v (opV_sub rfl rfl (by first | exact i64_in ⟨by omega, by omega⟩ | rfl)) rfl rfl rfl ?_
    refine doL_v (opV_assign rfl) rfl rfl rfl ?_
    refine doL_nil ?_
    refine post_rounds ?_
    refine doR_succ ?_
    refine doC_seq ?_
    refine doC_seq ?_
    refine doC_region ?_
    refine doL_v (opV_move rfl) rfl rfl rfl ?_
    refine doL_v (opV_gtr rfl rfl) rfl rfl rfl ?_
    refine doL_nil ?_
    refine post_then ?_
    refine doC_cond_t rfl (by decide) ?_
    refine doC_skip ?_
    refine post_then ?_
    refine doC_seq ?_
    refine doC_block ?_
    refine doC_seq ?_
    refine doC_region ?_
    refine doL_v (opV_move rfl) rfl rfl rfl ?_
    refine doL_srcA (F := vI) hs en28 rfl (fun w' h => srcSigned _ (by first | omega | assumption | (unfold In64; omega) | decide) w' h) rfl rfl ?_; intro r25_2 hr25_2
    have br25_2 := srcS_b hr25_2 (by first | decide | omega)
    refine doL_v (opV_assign rfl) rfl rfl rfl ?_
    refine doL_nil ?_
    refine post_then ?_
    refine doC_seq ?_
    refine doC_region ?_
    refine doL_v (opV_move rfl) rfl rfl rfl ?_
    refine doL_srcA (F := vI) hs en30 rfl (fun w' h => srcNext _ (by first | omega | assumption | (unfold In64; omega) | decide) w' h) rfl rfl ?_; intro r27_2 hr27_2
    have br27_2 := srcR_b hr27_2 (by first | decide | omega)
    refine doL_v (opV_assign rfl) rfl rfl rfl ?_
    refine doL_nil ?_
    refine post_then ?_
    refine doC_seq ?_
    refine doC_seq ?_
    refine doC_region ?_
    refine doL_v (opV_move rfl) rfl rfl rfl ?_
    refine doL_v (opV_not rfl) rfl rfl rfl ?_
    refine doL_nil ?_
    refine post_then ?_
    refine doC_cond_t rfl (rfl) ?_
    refine doC_region ?_
    refine doL_v (opV_assign rfl) rfl rfl rfl ?_
    refine doL_nil ?_
    refine post_then ?_
    refine doC_srcA 10 [2] hs mo (by kernel_rfl) ?_
    simp only [List.take_succ_cons, List.take_zero, List.drop_succ_cons, List.drop_zero]
    refine doM_v (fun _ => opV_loadA 5 ty63 rfl rfl rfl) rfl rfl rfl rfl ?_
    refine doM_v (fun _ => opV_move rfl) rfl rfl rfl rfl ?_
    refine doM_srcA (F := vI) hs en30 rfl (fun w' h => srcNext _ (by first | omega | assumption | (unfold In64; omega) | decide) w' h) rfl rfl rfl ?_; intro r32_2 hr32_2
    have br32_2 := srcR_b hr32_2 (by first | decide | omega)
    refine doM_v (fun _ => opV_move rfl) rfl rfl rfl rfl ?_
    refine doM_v (fun _ => opV_move rfl) rfl rfl rfl rfl ?_
    refine doM_v (fun _ => opV_move rfl) rfl rfl rfl rfl ?_
    refine doM_v (fun _ => opV_add rfl rfl (by first | exact i64_in ⟨by omega, by omega⟩ | rfl)) rfl rfl rfl rfl ?_
    refine doM_v (fun _ => opV_build la23 rfl rfl) rfl rfl rfl rfl ?_
    refine doM_vg (F := po) (fun _ => opV_call en64 rfl (fun w _ => qTurn _ _ _  w)) rfl rfl rfl rfl ?_; intro r38_2 hr38_2
    refine doM_vg (F := po) (fun _ => opV_call en65 rfl (fun w _ => qCompose _ _ _ _ _ _ _ _ _ _ _ _ _ _ _ _ _ _ _ _ _ _ _ _ _ _ _ _ _ _ _ _ _ _ _ _ _ _ _ _ _ _ _ _ _ _ _ _  w)) rfl rfl rfl rfl ?_; intro r39_2 hr39_2
    refine doM_nil ?_
    refine tail_nil ?_
    refine doL_store 5 ty63 rfl rfl rfl rfl rfl rfl rfl rfl ?_
    refine doL_nil ?_
    refine post_block_normal ?_
    refine post_then ?_
    refine doC_region ?_
    refine doL_v (opV_move rfl) rfl rfl rfl ?_
    refine doL_v (opV_sub rfl rfl (by first | exact i64_in ⟨by omega, by omega⟩ | rfl)) rfl rfl rfl ?_
    refine doL_v (opV_assign rfl) rfl rfl rfl ?_
    refine doL_nil ?_
    refine post_rounds ?_
    refine doR_succ ?_
    refine doC_seq ?_
    refine doC_seq ?_
    refine doC_region ?_
    refine doL_v (opV_move rfl) rfl rfl rfl ?_
    refine doL_v (opV_gtr rfl rfl) rfl rfl rfl ?_
    refine doL_nil ?_
    refine post_then ?_
    refine doC_cond_f rfl (by decide) ?_
    refine doC_exit ?_
    refine post_then_exit ?_
    refine post_then_exit ?_
    refine post_block_exit ?_
    refine post_then ?_
    refine doC_seq ?_
    refine doC_region ?_
    refine doL_v (opV_loadA 5 ty63 rfl rfl rfl) rfl rfl rfl ?_
    refine doL_store 4 ty63 rfl rfl rfl rfl rfl rfl rfl rfl ?_
    refine doL_nil ?_
    refine post_then ?_
    refine doC_ret ?_
    refine post_rets (rs := [.cell 4 63]) rfl (resC (resIs_cell 4 rfl rfl ty63 rfl) (resN)) (congrArg (po) (?_ : ⟨⟨⟨⟨_, _⟩, ⟨_, _⟩, ⟨_, _⟩⟩, ⟨⟨_, _⟩, ⟨_, _⟩, ⟨_, _⟩⟩, ⟨⟨_, _⟩, ⟨_, _⟩, ⟨_, _⟩⟩⟩, ⟨⟨_, _⟩, ⟨_, _⟩, ⟨_, _⟩⟩⟩ = stepP L (i + 7) false (stepP L (i + 4) false (motion0 L i))))
    have e17 : r17 = Po.shift r16 := hr17
    have e39 : r39 = Po.mul r17 r38 := hr39
    have e38 : r38 = Po.turn r32 ⟨r25, r25 + 0⟩ := hr38
    have e39_2 : r39_2 = Po.mul r39 r38_2 := hr39_2
    have e38_2 : r38_2 = Po.turn r32_2 ⟨r25_2, r25_2 + 0⟩ := hr38_2
    show r39_2 = stepP L (i + 7) false (stepP L (i + 4) false (motion0 L i))
    rw [e39_2, e38_2, hr32_2, hr25_2, e39, e38, hr32, hr25, e17, hr16, hr10, hr12, hr14]; rfl

theorem motionC {b : Nat} {sl : Value} {L : List Int} {i : Nat} (wide : Bool) (w : World) (hs : Src w b sl L i) : Calls Try.prog 49 [.pointer (some ⟨b, 0, none⟩), .bool wide].toArray w (Rets (po (motion L i wide)) (srcW w b sl L (motionE L i))) := by
  cases wide
  · exact motionF w hs
  · exact motionT w hs

end Go.Proofs.Ytonampcmhhhffaa

/- The walks of MatrixLength, MatrixOrthogonal and MatrixMonotone, and of what they call. No condition. -/
import Derived.Test.YtonampcmhhhffaaProg
import Derived.Test.YtonampcmhhhffaaMatLaw7
import Derived.Test.YtonampcmhhhffaaSxLate
import Derived.Test.YtonampcmhhhffaaA1
import Derived.Test.YtonampcmhhhffaaA2
import Derived.Test.YtonampcmhhhffaaM1
import Derived.Test.YtonampcmhhhffaaM2
import Derived.Test.YtonampcmhhhffaaSrc
import Derived.Test.YtonampcmhhhffaaL4
import Derived.Test.YtonampcmhhhffaaL6
namespace Go.Proofs.Ytonampcmhhhffaa
open Go.Sx
theorem en88 : Enters Try.prog 88 := enters_of Try.func88 (by kernel_rfl) (by kernel_rfl)
theorem en33 : Enters Try.prog 33 := enters_of Try.func33 (by kernel_rfl) (by kernel_rfl)
theorem en32 : Enters Try.prog 32 := enters_of Try.func32 (by kernel_rfl) (by kernel_rfl)

theorem meet_snd (a b : Iv) : (Iv.meet a b).2 = Iv.meetB a b := by
  unfold Iv.meet; cases Iv.meetB a b <;> rfl

theorem lSquare (va0 va1 va2 va3 va4 va5 : Int) (w : World) : Calls Try.prog 33 [.agg #[.int .i64 va0, .int .i64 va1, .int .i64 va2, .int .i64 va3, .int .i64 va4, .int .i64 va5]].toArray w (Rets (iv (V3.norm (⟨⟨va0, va1⟩, ⟨va2, va3⟩, ⟨va4, va5⟩⟩ : V3))) (w)) := by
  refine calls_of_doC (n := 14) Try.func33 rfl rfl rfl ?_
  refine doC_seq ?_
  refine doC_region ?_
  refine doL_box 1 rfl rfl rfl rfl ?_; intro b1
  refine doL_alloc 2 ze23 rfl rfl rfl ?_; intro b2
  refine doL_nil ?_
  refine post_then ?_
  refine doC_seq ?_
  refine doC_drawn 11 mo (by kernel_rfl) ?_
  simp only [List.take_succ_cons, List.take_zero, List.drop_succ_cons, List.drop_zero]
  refine doG_v (opV_indexAddr ar34 rfl rfl (by first | decide | omega) (by first | decide | omega)) rfl rfl rfl ?_
  refine doG_v (opV_loadA 1 ty23 rfl rfl rfl) rfl rfl rfl ?_
  refine doG_vg (F := iv) (opV_call en88 rfl (fun w _ => rSquare _ _  w)) rfl rfl rfl ?_; intro r5 hr5
  refine doG_v (opV_indexAddr ar34 rfl rfl (by first | decide | omega) (by first | decide | omega)) rfl rfl rfl ?_
  refine doG_v (opV_loadA 1 ty23 rfl rfl rfl) rfl rfl rfl ?_
  refine doG_vg (F := iv) (opV_call en88 rfl (fun w _ => rSquare _ _  w)) rfl rfl rfl ?_; intro r8 hr8
  refine doG_vg (F := iv) (opV_call en87 rfl (fun w _ => rAdd _ _ _ _  w)) rfl rfl rfl ?_; intro r9 hr9
  refine doG_v (opV_indexAddr ar34 rfl rfl (by first | decide | omega) (by first | decide | omega)) rfl rfl rfl ?_
  refine doG_v (opV_loadA 1 ty23 rfl rfl rfl) rfl rfl rfl ?_
  refine doG_vg (F := iv) (opV_call en88 rfl (fun w _ => rSquare _ _  w)) rfl rfl rfl ?_; intro r12 hr12
  refine doG_vg (F := iv) (opV_call en87 rfl (fun w _ => rAdd _ _ _ _  w)) rfl rfl rfl ?_; intro r13 hr13
  refine doG_nil ?_
  refine tail_nil ?_
  refine doL_store 2 ty23 rfl rfl rfl rfl rfl rfl rfl rfl ?_
  refine doL_nil ?_
  refine post_then ?_
  refine doC_ret ?_
  refine post_rets (rs := [.cell 2 23]) rfl (resC (resIs_cell 2 rfl rfl ty23 rfl) (resN)) (congrArg (iv) (?_ : ⟨_, _⟩ = V3.norm (⟨⟨va0, va1⟩, ⟨va2, va3⟩, ⟨va4, va5⟩⟩ : V3)))
  subst_vars; rfl

theorem wLength (lv : Value) (l : List Int) (w : World) (hl : IntsAt w w.heap.size lv l) : Calls Try.prog 4 [lv].toArray w (Rets (vB (true)) (w)) := by
  refine calls_of_doC (n := 38) Try.func4 rfl rfl rfl ?_
  refine doC_seq ?_
  refine doC_region ?_
  refine doL_v (opV_assign rfl) rfl rfl rfl ?_
  refine doL_nil ?_
  refine post_then ?_
  refine doC_seq ?_
  refine doC_region ?_
  refine doL_v (opV_move rfl) rfl rfl rfl ?_
  refine doL_callNew 9 en26 rfl (fun w' k => mFrom w' (intsAt_grow hl k.grow (Nat.le_refl _))) rfl rfl ?_; intro b9
  refine doL_v (opV_assign rfl) rfl rfl rfl ?_
  refine doL_nil ?_
  refine post_then ?_
  refine doC_seq ?_
  refine doC_region ?_
  refine doL_v (opV_move rfl) rfl rfl rfl ?_
  refine doL_srcB (F := vI) 9 hl rfl en28 rfl (fun w' h => srcSigned _ (by first | omega | assumption | (unfold In64; omega) | decide) w' h) rfl rfl rfl ?_; intro r11 hr11
  have br11 := srcS_b hr11 (by first | decide | omega)
  refine doL_v (opV_move rfl) rfl rfl rfl ?_
  refine doL_srcB (F := vI) 9 hl rfl en28 rfl (fun w' h => srcSigned _ (by first | omega | assumption | (unfold In64; omega) | decide) w' h) rfl rfl rfl ?_; intro r13 hr13
  have br13 := srcS_b hr13 (by first | decide | omega)
  refine doL_v (opV_move rfl) rfl rfl rfl ?_
  refine doL_srcB (F := vI) 9 hl rfl en28 rfl (fun w' h => srcSigned _ (by first | omega | assumption | (unfold In64; omega) | decide) w' h) rfl rfl rfl ?_; intro r15 hr15
  have br15 := srcS_b hr15 (by first | decide | omega)
  refine doL_v (opV_build la38 rfl rfl) rfl rfl rfl ?_
  refine doL_vg (F := v3) (opV_call en27 rfl (fun w _ => rPoint _ _ _  w)) rfl rfl rfl ?_; intro r17 hr17
  refine doL_alloc 4 ze34 rfl rfl rfl ?_; intro b4
  refine doL_store 4 ty34 rfl rfl rfl rfl rfl rfl rfl rfl ?_
  refine doL_nil ?_
  refine post_then ?_
  refine doC_seq ?_
  refine doC_srcB 9 9 [1, 3] rfl mo (by kernel_rfl) ?_
  simp only [List.take_succ_cons, List.take_zero, List.drop_succ_cons, List.drop_zero]
  refine doM_v (fun _ => opV_move rfl) rfl rfl rfl rfl ?_
  refine doM_srcB (F := vI) 9 hl rfl en30 rfl (fun w' h => srcNext _ (by first | omega | assumption | (unfold In64; omega) | decide) w' h) rfl rfl rfl ?_; intro r19 hr19
  have br19 := srcR_b hr19 (by first | decide | omega)
  refine doM_v (fun _ => opV_move rfl) rfl rfl rfl rfl ?_
  refine doM_srcB (F := vI) 9 hl rfl en28 rfl (fun w' h => srcSigned _ (by first | omega | assumption | (unfold In64; omega) | decide) w' h) rfl rfl rfl ?_; intro r21 hr21
  have br21 := srcS_b hr21 (by first | decide | omega)
  refine doM_vg (F := iv) (fun _ => opV_call en31 rfl (fun w _ => rOf _  w)) rfl rfl rfl rfl ?_; intro r22 hr22
  refine doM_vg (F := m3) (fun _ => opV_call en24 rfl (fun w _ => mTurn _ _ _  w)) rfl rfl rfl rfl ?_; intro r23 hr23
  refine doM_v (fun _ => opV_loadA 4 ty34 rfl rfl rfl) rfl rfl rfl rfl ?_
  refine doM_vg (F := v3) (fun _ => opV_call en29 rfl (fun w _ => mApply _ _ _ _ _ _ _ _ _ _ _ _ _ _ _ _ _ _ _ _ _ _ _ _  w)) rfl rfl rfl rfl ?_; intro r25 hr25
  refine doM_alloc (famB (id := 9) rfl) ze34 rfl rfl rfl rfl rfl ?_
  refine doM_nil ?_
  refine tail_heap rfl ?_
  refine tail_alloc 5 rfl ?_; intro b5_2
  refine tail_nil ?_
  refine doL_store 5 ty34 rfl rfl rfl rfl rfl rfl rfl rfl ?_
  refine doL_nil ?_
  refine post_then ?_
  refine doC_seq ?_
  refine doC_late 9 7 (by repeat (first | exact putP_body | refine putP_then ?_ | refine putP_block ?_)) mo (by kernel_rfl) ?_
  simp only [List.take_succ_cons, List.take_zero, List.drop_succ_cons, List.drop_zero]
  refine doG_v (opV_loadA 4 ty34 rfl rfl rfl) rfl rfl rfl ?_
  refine doG_vg (F := iv) (opV_call en33 rfl (fun w _ => lSquare _ _ _ _ _ _  w)) rfl rfl rfl ?_; intro r28 hr28
  refine doG_v (opV_loadA 5 ty34 rfl rfl rfl) rfl rfl rfl ?_
  refine doG_vg (F := iv) (opV_call en33 rfl (fun w _ => lSquare _ _ _ _ _ _  w)) rfl rfl rfl ?_; intro r30 hr30
  refine doG_vg (F := ivB) (opV_call en32 rfl (fun w _ => rMeet _ _ _ _  w)) rfl rfl rfl ?_; intro r31 hr31
  refine doG_v (opV_move rfl) rfl rfl rfl ?_
  refine doG_v (opV_extract rfl rfl) rfl rfl rfl ?_
  refine doG_v (opV_extract rfl rfl) rfl rfl rfl ?_
  refine doG_alloc ze23 rfl rfl rfl rfl ?_
  refine doG_nil ?_
  refine tail_alloc 6 rfl ?_; intro b6_2
  refine tail_nil ?_
  refine doL_store 6 ty23 rfl rfl rfl rfl rfl rfl rfl rfl ?_
  refine doL_v (opV_assign rfl) rfl rfl rfl ?_
  refine doL_nil ?_
  refine post_then ?_
  refine doC_seq ?_
  refine doC_region ?_
  refine doL_vg (F := vB) (opV_call en23 rfl (fun w _ => awake4   w)) rfl rfl rfl ?_; intro r34 hr34
  refine doL_v (opV_move rfl) rfl rfl rfl ?_
  refine doL_true 35 rfl (hr34) ?_
  refine doL_v (opV_move rfl) rfl rfl rfl ?_
  refine doL_v (opV_pick_t rfl rfl rfl rfl) rfl rfl rfl ?_
  refine doL_v (opV_assign rfl) rfl rfl rfl ?_
  refine doL_nil ?_
  refine post_then ?_
  refine doC_ret ?_
  refine post_rets (rs := [.tmp 2]) rfl (resC (resIs_tmp rfl) (resN)) (congrArg (vB) (?_ : _ = true))
  have e28 : r28 = V3.norm r17 := hr28
  have e30 : r30 = V3.norm r25 := hr30
  have e25 : r25 = M3.apply r23 r17 := hr25
  have e23 : r23 = M3.turn r19 r22 := hr23
  rw [(congrArg Prod.snd (show r31 = Iv.meet r28 r30 from hr31)).trans (meet_snd _ _), e28, e30, e25, hr17, e23, hr22]; exact length_law br19 (by omega) (by simp only; omega) (by simp only; omega) (by simp only; omega)

theorem wOrthogonal (lv : Value) (l : List Int) (w : World) (hl : IntsAt w w.heap.size lv l) : Calls Try.prog 8 [lv].toArray w (Rets (vB (true)) (w)) := by
  refine calls_of_doC (n := 37) Try.func8 rfl rfl rfl ?_
  refine doC_seq ?_
  refine doC_region ?_
  refine doL_v (opV_assign rfl) rfl rfl rfl ?_
  refine doL_nil ?_
  refine post_then ?_
  refine doC_seq ?_
  refine doC_region ?_
  refine doL_v (opV_move rfl) rfl rfl rfl ?_
  refine doL_callNew 6 en26 rfl (fun w' k => mFrom w' (intsAt_grow hl k.grow (Nat.le_refl _))) rfl rfl ?_; intro b6
  refine doL_v (opV_assign rfl) rfl rfl rfl ?_
  refine doL_nil ?_
  refine post_then ?_
  refine doC_seq ?_
  refine doC_region ?_
  refine doL_v (opV_move rfl) rfl rfl rfl ?_
  refine doL_srcB (F := vI) 6 hl rfl en30 rfl (fun w' h => srcNext _ (by first | omega | assumption | (unfold In64; omega) | decide) w' h) rfl rfl rfl ?_; intro r8 hr8
  have br8 := srcR_b hr8 (by first | decide | omega)
  refine doL_v (opV_move rfl) rfl rfl rfl ?_
  refine doL_srcB (F := vI) 6 hl rfl en28 rfl (fun w' h => srcSigned _ (by first | omega | assumption | (unfold In64; omega) | decide) w' h) rfl rfl rfl ?_; intro r10 hr10
  have br10 := srcS_b hr10 (by first | decide | omega)
  refine doL_vg (F := iv) (opV_call en31 rfl (fun w _ => rOf _  w)) rfl rfl rfl ?_; intro r11 hr11
  refine doL_vg (F := m3) (opV_call en24 rfl (fun w _ => mTurn _ _ _  w)) rfl rfl rfl ?_; intro r12 hr12
  refine doL_v (opV_move rfl) rfl rfl rfl ?_
  refine doL_srcB (F := vI) 6 hl rfl en30 rfl (fun w' h => srcNext _ (by first | omega | assumption | (unfold In64; omega) | decide) w' h) rfl rfl rfl ?_; intro r14 hr14
  have br14 := srcR_b hr14 (by first | decide | omega)
  refine doL_v (opV_move rfl) rfl rfl rfl ?_
  refine doL_srcB (F := vI) 6 hl rfl en28 rfl (fun w' h => srcSigned _ (by first | omega | assumption | (unfold In64; omega) | decide) w' h) rfl rfl rfl ?_; intro r16 hr16
  have br16 := srcS_b hr16 (by first | decide | omega)
  refine doL_vg (F := iv) (opV_call en31 rfl (fun w _ => rOf _  w)) rfl rfl rfl ?_; intro r17 hr17
  refine doL_vg (F := m3) (opV_call en24 rfl (fun w _ => mTurn _ _ _  w)) rfl rfl rfl ?_; intro r18 hr18
  refine doL_vg (F := m3) (opV_call en34 rfl (fun w _ => mCompose _ _ _ _ _ _ _ _ _ _ _ _ _ _ _ _ _ _ _ _ _ _ _ _ _ _ _ _ _ _ _ _ _ _ _ _  w)) rfl rfl rfl ?_; intro r19 hr19
  refine doL_alloc 4 ze28 rfl rfl rfl ?_; intro b4
  refine doL_store 4 ty28 rfl rfl rfl rfl rfl rfl rfl rfl ?_
  refine doL_nil ?_
  refine post_then ?_
  refine doC_seq ?_
  refine doC_drawn 17 mo (by kernel_rfl) ?_
  simp only [List.take_succ_cons, List.take_zero, List.drop_succ_cons, List.drop_zero]
  refine doG_vg (F := vB) (opV_call en23 rfl (fun w _ => awake4   w)) rfl rfl rfl ?_; intro r20 hr20
  obtain rfl : r20 = true := hr20
  refine doG_v (opV_move rfl) rfl rfl rfl ?_
  refine doG_vg (F := m3) (opV_call en36 rfl (fun w _ => rUnit   w)) rfl rfl rfl ?_; intro r22 hr22
  refine doG_v (opV_loadA 4 ty28 rfl rfl rfl) rfl rfl rfl ?_
  refine doG_v (opV_loadA 4 ty28 rfl rfl rfl) rfl rfl rfl ?_
  refine doG_vg (F := m3) (opV_call en41 rfl (fun w _ => mTranspose _ _ _ _ _ _ _ _ _ _ _ _ _ _ _ _ _ _  w)) rfl rfl rfl ?_; intro r25 hr25
  refine doG_vg (F := m3) (opV_call en34 rfl (fun w _ => mCompose _ _ _ _ _ _ _ _ _ _ _ _ _ _ _ _ _ _ _ _ _ _ _ _ _ _ _ _ _ _ _ _ _ _ _ _  w)) rfl rfl rfl ?_; intro r26 hr26
  refine doG_vg (F := vB) (opV_call en40 rfl (fun w _ => mWithinMat _ _ _ _ _ _ _ _ _ _ _ _ _ _ _ _ _ _ _ _ _ _ _ _ _ _ _ _ _ _ _ _ _ _ _ _  w)) rfl rfl rfl ?_; intro r27 hr27
  obtain rfl : r27 = true := (by have e25 : r25 = M3.tr r19 := hr25; have e26 : r26 = M3.mul r19 r25 := hr26; have e27 : r27 = M3.within r22 r26 := hr27; have e19 : r19 = M3.mul r12 r18 := hr19; have e12 : r12 = M3.turn r8 r11 := hr12; have e18 : r18 = M3.turn r14 r17 := hr18; rw [e27, e26, e25, e19, e12, e18, hr11, hr17, hr22]; exact (orth_law br8 br14 (by omega) (by omega)).1)
  refine doG_v (opV_pick_t rfl rfl rfl rfl) rfl rfl rfl ?_
  refine doG_v (opV_move rfl) rfl rfl rfl ?_
  refine doG_vg (F := m3) (opV_call en36 rfl (fun w _ => rUnit   w)) rfl rfl rfl ?_; intro r30 hr30
  refine doG_v (opV_loadA 4 ty28 rfl rfl rfl) rfl rfl rfl ?_
  refine doG_vg (F := m3) (opV_call en41 rfl (fun w _ => mTranspose _ _ _ _ _ _ _ _ _ _ _ _ _ _ _ _ _ _  w)) rfl rfl rfl ?_; intro r32 hr32
  refine doG_v (opV_loadA 4 ty28 rfl rfl rfl) rfl rfl rfl ?_
  refine doG_vg (F := m3) (opV_call en34 rfl (fun w _ => mCompose _ _ _ _ _ _ _ _ _ _ _ _ _ _ _ _ _ _ _ _ _ _ _ _ _ _ _ _ _ _ _ _ _ _ _ _  w)) rfl rfl rfl ?_; intro r34 hr34
  refine doG_vg (F := vB) (opV_call en40 rfl (fun w _ => mWithinMat _ _ _ _ _ _ _ _ _ _ _ _ _ _ _ _ _ _ _ _ _ _ _ _ _ _ _ _ _ _ _ _ _ _ _ _  w)) rfl rfl rfl ?_; intro r35 hr35
  refine doG_v (opV_pick_t rfl rfl rfl rfl) rfl rfl rfl ?_
  refine doG_nil ?_
  refine tail_nil ?_
  refine doL_v (opV_assign rfl) rfl rfl rfl ?_
  refine doL_nil ?_
  refine post_then ?_
  refine doC_ret ?_
  refine post_rets (rs := [.tmp 2]) rfl (resC (resIs_tmp rfl) (resN)) (congrArg (vB) (?_ : _ = true))
  have e32 : r32 = M3.tr r19 := hr32
  have e34 : r34 = M3.mul r32 r19 := hr34
  have e35 : r35 = M3.within r30 r34 := hr35
  have e19 : r19 = M3.mul r12 r18 := hr19
  have e12 : r12 = M3.turn r8 r11 := hr12
  have e18 : r18 = M3.turn r14 r17 := hr18
  rw [e35, e34, e32, e19, e12, e18, hr11, hr17, hr30]; exact (orth_law br8 br14 (by omega) (by omega)).2

theorem partC (a0 a1 : Int) (i : Int) (j : Int) (hv : Ok (⟨a0, a1⟩ : Iv)) (w : World) : Calls Try.prog 45 [.agg #[.int .i64 a0, .int .i64 a1], .int .i64 i, .int .i64 j].toArray w (Rets (iv (partI (⟨a0, a1⟩ : Iv) i j)) (w)) := by
  refine calls_of_doC (n := 42) Try.func45 rfl rfl rfl ?_
  refine doC_seq ?_
  unfold Ok at hv; simp only at hv
  refine doC_region ?_
  refine doL_box 3 rfl rfl rfl rfl ?_; intro b3
  refine doL_alloc 6 ze23 rfl rfl rfl ?_; intro b6
  refine doL_nil ?_
  refine post_then ?_
  refine doC_seq ?_
  refine doC_region ?_
  refine doL_v (opV_fieldAddr fa23_1 rfl) rfl rfl rfl ?_
  refine doL_v (opV_load1 3 ty2 rfl rfl rfl) rfl rfl rfl ?_
  refine doL_v (opV_fieldAddr fa23_0 rfl) rfl rfl rfl ?_
  refine doL_v (opV_load1 3 ty2 rfl rfl rfl) rfl rfl rfl ?_
  refine doL_v (opV_sub rfl rfl (by first | exact i64_in ⟨by omega, by omega⟩ | rfl)) rfl rfl rfl ?_
  refine doL_v (opV_add rfl rfl (by first | exact i64_in ⟨by omega, by omega⟩ | rfl)) rfl rfl rfl ?_
  refine doL_v (opV_assign rfl) rfl rfl rfl ?_
  refine doL_nil ?_
  refine post_then ?_
  refine doC_seq ?_
  refine doC_drawn 6 mo (by kernel_rfl) ?_
  simp only [List.take_succ_cons, List.take_zero, List.drop_succ_cons, List.drop_zero]
  refine doG_v (opV_fieldAddr fa23_0 rfl) rfl rfl rfl ?_
  refine doG_v (opV_load1 3 ty2 rfl rfl rfl) rfl rfl rfl ?_
  refine doG_v (opV_move rfl) rfl rfl rfl ?_
  refine doG_v (opV_move rfl) rfl rfl rfl ?_
  refine doG_vg (F := vI) (opV_call en22 rfl (fun w _ => mRound _ _ (by first | omega | assumption | (unfold In64; omega) | decide) w)) rfl rfl rfl ?_; intro r20 hr20
  have qr20 := Int.emod_nonneg i (show a1 - a0 + 1 ≠ 0 by omega)
  have pr20 := Int.emod_lt_of_pos i (show 0 < a1 - a0 + 1 by omega)
  refine doG_v (opV_add rfl rfl (by first | exact i64_in ⟨by omega, by omega⟩ | rfl)) rfl rfl rfl ?_
  refine doG_nil ?_
  refine tail_nil ?_
  refine doL_v (opV_assign rfl) rfl rfl rfl ?_
  refine doL_nil ?_
  refine post_then ?_
  refine doC_seq ?_
  refine doC_seq ?_
  refine doC_region ?_
  refine doL_v (opV_move rfl) rfl rfl rfl ?_
  refine doL_v (opV_and rfl rfl and_1) rfl rfl rfl ?_
  refine doL_v (opV_eql rfl rfl) rfl rfl rfl ?_
  refine doL_nil ?_
  refine post_then ?_
  refine doC_cond rfl (fun hc24 => ?_) (fun hc24 => ?_)
  ·
    refine doC_seq ?_
    refine doC_region ?_
    refine doL_v (opV_move rfl) rfl rfl rfl ?_
    refine doL_v (opV_move rfl) rfl rfl rfl ?_
    refine doL_v (opV_build la23 rfl rfl) rfl rfl rfl ?_
    refine doL_store 6 ty23 rfl rfl rfl rfl rfl rfl rfl rfl ?_
    refine doL_nil ?_
    refine post_then ?_
    refine doC_ret ?_
    refine post_then_ret ?_
    refine post_rets (rs := [.cell 6 23]) rfl (resC (resIs_cell 6 rfl rfl ty23 rfl) (resN)) (congrArg (iv) (?_ : ⟨_, _⟩ = partI (⟨a0, a1⟩ : Iv) i j))
    subst_vars; first | (simp_all [partI]; done) | (simp_all [partI] <;> omega) | grind [partI]
  ·
    refine doC_skip ?_
    refine post_then ?_
    refine doC_seq ?_
    refine doC_drawn 7 mo (by kernel_rfl) ?_
    simp only [List.take_succ_cons, List.take_zero, List.drop_succ_cons, List.drop_zero]
    refine doG_v (opV_fieldAddr fa23_0 rfl) rfl rfl rfl ?_
    refine doG_v (opV_load1 3 ty2 rfl rfl rfl) rfl rfl rfl ?_
    refine doG_v (opV_move rfl) rfl rfl rfl ?_
    refine doG_v (opV_shr rfl rfl (by first | decide | omega) shr_1) rfl rfl rfl ?_
    refine doG_v (opV_move rfl) rfl rfl rfl ?_
    refine doG_vg (F := vI) (opV_call en22 rfl (fun w _ => mRound _ _ (by first | omega | assumption | (unfold In64; omega) | decide) w)) rfl rfl rfl ?_; intro r33 hr33
    have qr33 := Int.emod_nonneg (j / 2) (show a1 - a0 + 1 ≠ 0 by omega)
    have pr33 := Int.emod_lt_of_pos (j / 2) (show 0 < a1 - a0 + 1 by omega)
    refine doG_v (opV_add rfl rfl (by first | exact i64_in ⟨by omega, by omega⟩ | rfl)) rfl rfl rfl ?_
    refine doG_nil ?_
    refine tail_nil ?_
    refine doL_v (opV_assign rfl) rfl rfl rfl ?_
    refine doL_nil ?_
    refine post_then ?_
    refine doC_seq ?_
    refine doC_region ?_
    refine doL_v (opV_move rfl) rfl rfl rfl ?_
    refine doL_v (opV_move rfl) rfl rfl rfl ?_
    refine doL_v (opV_min2 rfl rfl) rfl rfl rfl ?_
    refine doL_v (opV_move rfl) rfl rfl rfl ?_
    refine doL_v (opV_move rfl) rfl rfl rfl ?_
    refine doL_v (opV_max2 rfl rfl) rfl rfl rfl ?_
    refine doL_v (opV_build la23 rfl rfl) rfl rfl rfl ?_
    refine doL_store 6 ty23 rfl rfl rfl rfl rfl rfl rfl rfl ?_
    refine doL_nil ?_
    refine post_then ?_
    refine doC_ret ?_
    refine post_rets (rs := [.cell 6 23]) rfl (resC (resIs_cell 6 rfl rfl ty23 rfl) (resN)) (congrArg (iv) (?_ : ⟨_, _⟩ = partI (⟨a0, a1⟩ : Iv) i j))
    subst_vars; first | (simp_all [partI]; done) | (simp_all [partI] <;> omega) | grind [partI]

theorem shl1 {k : Int} (h : 0 ≤ k ∧ k ≤ 62) : IntKind.i64.wrap (1 * 2 ^ min k.toNat IntKind.i64.bits) = 2 ^ k.toNat := by
  have hb : IntKind.i64.bits = 64 := rfl
  rw [show min k.toNat IntKind.i64.bits = k.toNat by omega, Int.one_mul]
  have e : (2 : Int) ^ k.toNat = ((2 ^ k.toNat : Nat) : Int) := by simp
  have p2 : (2 : Nat) ^ k.toNat ≤ 2 ^ 62 := Nat.pow_le_pow_right (by decide) (by omega)
  have p0 : 0 < (2 : Nat) ^ k.toNat := Nat.pow_pos (by decide)
  refine i64_in ?_
  rw [e]
  omega
theorem u64_in {x : Int} (h : 0 ≤ x ∧ x ≤ 9223372036854775807) : IntKind.u64.wrap x = x := by
  unfold IntKind.wrap
  have hb : IntKind.u64.bits = 64 := rfl
  have hs : IntKind.u64.signed = false := rfl
  simp only [hb, hs, Bool.false_and]
  simp
  omega
theorem kind_uint : (Try.prog).intKind 108 = .u64 := by kernel_rfl
theorem und_uint : (Try.prog).underlying 108 = some (.int ((Try.prog).intKind 108)) := by kernel_rfl
theorem opV_uint {w0 : World} {S : Slots} {H : Heap} {dd : Option Tmp} {x : Operand} {k : Int} {ty : TypeId} {pos : String} {af : Array Edge} {g : Option (Nat × Bool)} (hx : ev S x = some (.int .i64 k)) (h : 0 ≤ k ∧ k ≤ 9223372036854775807) :
    OpV Try.prog w0 S H ⟨dd, .convert 3 108 x, ty, pos, af, g⟩ (.int .u64 k) :=
  opV_of (by simp [knownB, Op.operands, hx]) rfl fun w _ => by
    have := Go.run_convert_int (P := Try.prog) w 3 108 .i64 k (by kernel_rfl) und_uint
    rw [kind_uint, u64_in h] at this
    simp [execOp, evD_of hx, this]

theorem intervalC (a : Int) (b : Int) (w : World) : Calls Try.prog 44 [.int .i64 a, .int .i64 b].toArray w (Rets (iv (intervalI a b)) (w)) := by
  refine calls_of_doC (n := 50) Try.func44 rfl rfl rfl ?_
  refine doC_seq ?_
  refine doC_region ?_
  refine doL_alloc 4 ze23 rfl rfl rfl ?_; intro b4
  refine doL_nil ?_
  refine post_then ?_
  refine doC_seq ?_
  refine doC_region ?_
  refine doL_v (opV_move rfl) rfl rfl rfl ?_
  refine doL_v (opV_shr rfl rfl (by first | decide | omega) shr_3) rfl rfl rfl ?_
  refine doL_vg (F := vI) (opV_call en22 rfl (fun w _ => mRound _ _ (by first | omega | assumption | (unfold In64; omega) | decide) w)) rfl rfl rfl ?_; intro r10 hr10
  have qr10 : 0 ≤ r10 ∧ r10 < 27 := by omega
  have kb := ivK_bnd a
  have ke : ivK a = 2 ^ (4 + r10).toNat := by rw [hr10]; rfl
  rw [ke] at kb
  refine doL_v (opV_add rfl rfl (by first | exact i64_in ⟨by omega, by omega⟩ | rfl)) rfl rfl rfl ?_
  refine doL_v (opV_uint rfl (by omega)) rfl rfl rfl ?_
  refine doL_v (opV_shl rfl rfl (by first | decide | omega) (shl1 (by omega))) rfl rfl rfl ?_
  refine doL_v (opV_assign rfl) rfl rfl rfl ?_
  refine doL_nil ?_
  refine post_then ?_
  refine doC_seq ?_
  refine doC_region ?_
  refine doL_v (opV_move rfl) rfl rfl rfl ?_
  refine doL_v (opV_move rfl) rfl rfl rfl ?_
  refine doL_v (opV_mul rfl rfl (by first | exact i64_in ⟨by omega, by omega⟩ | rfl)) rfl rfl rfl ?_
  refine doL_v (opV_add rfl rfl (by first | exact i64_in ⟨by omega, by omega⟩ | rfl)) rfl rfl rfl ?_
  refine doL_vg (F := vI) (opV_call en22 rfl (fun w _ => mRound _ _ (by first | omega | assumption | (unfold In64; omega) | decide) w)) rfl rfl rfl ?_; intro r18 hr18
  have qr18 := Int.emod_nonneg a (show 2 * 2 ^ (4 + r10).toNat + 1 ≠ 0 by omega)
  have pr18 := Int.emod_lt_of_pos a (show 0 < 2 * 2 ^ (4 + r10).toNat + 1 by omega)
  refine doL_v (opV_move rfl) rfl rfl rfl ?_
  refine doL_v (opV_sub rfl rfl (i64_in (by omega))) rfl rfl rfl ?_
  refine doL_v (opV_move rfl) rfl rfl rfl ?_
  refine doL_v (opV_move rfl) rfl rfl rfl ?_
  refine doL_v (opV_mul rfl rfl (by first | exact i64_in ⟨by omega, by omega⟩ | rfl)) rfl rfl rfl ?_
  refine doL_v (opV_add rfl rfl (by first | exact i64_in ⟨by omega, by omega⟩ | rfl)) rfl rfl rfl ?_
  refine doL_vg (F := vI) (opV_call en22 rfl (fun w _ => mRound _ _ (by first | omega | assumption | (unfold In64; omega) | decide) w)) rfl rfl rfl ?_; intro r25 hr25
  have qr25 := Int.emod_nonneg b (show 2 * 2 ^ (4 + r10).toNat + 1 ≠ 0 by omega)
  have pr25 := Int.emod_lt_of_pos b (show 0 < 2 * 2 ^ (4 + r10).toNat + 1 by omega)
  refine doL_v (opV_move rfl) rfl rfl rfl ?_
  refine doL_v (opV_sub rfl rfl (i64_in (by omega))) rfl rfl rfl ?_
  refine doL_v (opV_assign rfl) rfl rfl rfl ?_
  refine doL_v (opV_assign rfl) rfl rfl rfl ?_
  refine doL_nil ?_
  refine post_then ?_
  refine doC_seq ?_
  refine doC_seq ?_
  refine doC_region ?_
  refine doL_v (opV_move rfl) rfl rfl rfl ?_
  refine doL_v (opV_and rfl rfl and_1) rfl rfl rfl ?_
  refine doL_v (opV_eql rfl rfl) rfl rfl rfl ?_
  refine doL_nil ?_
  refine post_then ?_
  refine doC_cond rfl (fun hc30 => ?_) (fun hc30 => ?_)
  ·
    refine doC_region ?_
    refine doL_v (opV_move rfl) rfl rfl rfl ?_
    refine doL_v (opV_move rfl) rfl rfl rfl ?_
    refine doL_v (opV_shr rfl rfl (by first | decide | omega) shr_1) rfl rfl rfl ?_
    refine doL_v (opV_move rfl) rfl rfl rfl ?_
    refine doL_v (opV_quo rfl rfl (by first | decide | omega) (by first | exact (congrArg _ (tdiv_nonneg (by omega) (by omega))).trans (i64_in ⟨by omega, by omega⟩) | rfl)) rfl rfl rfl ?_
    refine doL_v (opV_add rfl rfl (by first | exact i64_in ⟨by omega, by omega⟩ | rfl)) rfl rfl rfl ?_
    refine doL_vg (F := vI) (opV_call en22 rfl (fun w _ => mRound _ _ (by first | omega | assumption | (unfold In64; omega) | decide) w)) rfl rfl rfl ?_; intro r37 hr37
    have qr37 := Int.emod_nonneg (b / 2) (show 1 + 2 ^ (4 + r10).toNat / 8 ≠ 0 by omega)
    have pr37 := Int.emod_lt_of_pos (b / 2) (show 0 < 1 + 2 ^ (4 + r10).toNat / 8 by omega)
    refine doL_v (opV_add rfl rfl (by first | exact i64_in ⟨by omega, by omega⟩ | rfl)) rfl rfl rfl ?_
    refine doL_v (opV_assign rfl) rfl rfl rfl ?_
    refine doL_nil ?_
    refine post_then ?_
    refine doC_seq ?_
    refine doC_region ?_
    refine doL_v (opV_move rfl) rfl rfl rfl ?_
    refine doL_vg (F := vI) (opV_call en86 rfl (fun w _ => rClamp _  w)) rfl rfl rfl ?_; intro r40 hr40
    refine doL_v (opV_move rfl) rfl rfl rfl ?_
    refine doL_vg (F := vI) (opV_call en86 rfl (fun w _ => rClamp _  w)) rfl rfl rfl ?_; intro r42 hr42
    refine doL_v (opV_min2 rfl rfl) rfl rfl rfl ?_
    refine doL_v (opV_move rfl) rfl rfl rfl ?_
    refine doL_vg (F := vI) (opV_call en86 rfl (fun w _ => rClamp _  w)) rfl rfl rfl ?_; intro r45 hr45
    refine doL_v (opV_move rfl) rfl rfl rfl ?_
    refine doL_vg (F := vI) (opV_call en86 rfl (fun w _ => rClamp _  w)) rfl rfl rfl ?_; intro r47 hr47
    refine doL_v (opV_max2 rfl rfl) rfl rfl rfl ?_
    refine doL_v (opV_build la23 rfl rfl) rfl rfl rfl ?_
    refine doL_store 4 ty23 rfl rfl rfl rfl rfl rfl rfl rfl ?_
    refine doL_nil ?_
    refine post_then ?_
    refine doC_ret ?_
    refine post_rets (rs := [.cell 4 23]) rfl (resC (resIs_cell 4 rfl rfl ty23 rfl) (resN)) (congrArg (iv) (?_ : ⟨_, _⟩ = intervalI a b))
    unfold intervalI; simp only [ke, hc30]; subst_vars; rfl
  ·
    refine doC_skip ?_
    refine post_then ?_
    refine doC_seq ?_
    refine doC_region ?_
    refine doL_v (opV_move rfl) rfl rfl rfl ?_
    refine doL_vg (F := vI) (opV_call en86 rfl (fun w _ => rClamp _  w)) rfl rfl rfl ?_; intro r40 hr40
    refine doL_v (opV_move rfl) rfl rfl rfl ?_
    refine doL_vg (F := vI) (opV_call en86 rfl (fun w _ => rClamp _  w)) rfl rfl rfl ?_; intro r42 hr42
    refine doL_v (opV_min2 rfl rfl) rfl rfl rfl ?_
    refine doL_v (opV_move rfl) rfl rfl rfl ?_
    refine doL_vg (F := vI) (opV_call en86 rfl (fun w _ => rClamp _  w)) rfl rfl rfl ?_; intro r45 hr45
    refine doL_v (opV_move rfl) rfl rfl rfl ?_
    refine doL_vg (F := vI) (opV_call en86 rfl (fun w _ => rClamp _  w)) rfl rfl rfl ?_; intro r47 hr47
    refine doL_v (opV_max2 rfl rfl) rfl rfl rfl ?_
    refine doL_v (opV_build la23 rfl rfl) rfl rfl rfl ?_
    refine doL_store 4 ty23 rfl rfl rfl rfl rfl rfl rfl rfl ?_
    refine doL_nil ?_
    refine post_then ?_
    refine doC_ret ?_
    refine post_rets (rs := [.cell 4 23]) rfl (resC (resIs_cell 4 rfl rfl ty23 rfl) (resN)) (congrArg (iv) (?_ : ⟨_, _⟩ = intervalI a b))
    unfold intervalI; simp only [ke, hc30]; subst_vars; rfl

end Go.Proofs.Ytonampcmhhhffaa

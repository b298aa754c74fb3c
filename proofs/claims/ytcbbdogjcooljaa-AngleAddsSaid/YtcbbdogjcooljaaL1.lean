/- The walks of the laws of chapter 3. No condition. -/
import Derived.Test.YtcbbdogjcooljaaProg
import Derived.Test.YtcbbdogjcooljaaAngLaw
import Derived.Test.YtcbbdogjcooljaaA1
import Derived.Test.YtcbbdogjcooljaaA2
namespace Go.Proofs.Ytcbbdogjcooljaa
open Go.Sx
theorem ag24 : aggB Try.prog 24 = true := by kernel_rfl
theorem ce24 (a0 a1 : Int) : cellsB Try.prog 4 24 [.int .i64 a0, .int .i64 a1] = true := by kernel_rfl
theorem en12 : Enters Try.prog 12 := enters_of Try.func12 (by kernel_rfl) (by kernel_rfl)
theorem en14 : Enters Try.prog 14 := enters_of Try.func14 (by kernel_rfl) (by kernel_rfl)

theorem awake3  (w : World) : Calls Try.prog 14 [].toArray w (Rets (vB (true)) w) := by
  refine calls_of_doC (n := 14) Try.func14 rfl rfl rfl ?_
  refine doC_seq ?_
  refine doC_region ?_
  refine doL_v (opV_assign rfl) rfl rfl rfl ?_
  refine doL_nil ?_
  refine post_then ?_
  refine doC_seq ?_
  refine doC_region ?_
  refine doL_vg (F := iv) (opV_call en13 rfl (fun w _ => aSin _  w)) rfl rfl rfl ?_; intro r1 hr1
  refine doL_v (opV_build la24 rfl rfl) rfl rfl rfl ?_
  refine doL_v (opV_eqA 4 rfl ag24 rfl rfl (ce24 _ _) (ce24 _ _)) rfl rfl rfl ?_
  refine doL_v (opV_move rfl) rfl rfl rfl ?_
  refine doL_true 4 rfl (eq_iv (hr1.trans sin_0)) ?_
  refine doL_vg (F := iv) (opV_call en13 rfl (fun w _ => aSin _  w)) rfl rfl rfl ?_; intro r5 hr5
  refine doL_v (opV_build la24 rfl rfl) rfl rfl rfl ?_
  refine doL_v (opV_eqA 4 rfl ag24 rfl rfl (ce24 _ _) (ce24 _ _)) rfl rfl rfl ?_
  refine doL_v (opV_pick_t rfl rfl rfl rfl) rfl rfl rfl ?_
  refine doL_v (opV_move rfl) rfl rfl rfl ?_
  refine doL_true 9 rfl (eq_iv (hr5.trans sin_q)) ?_
  refine doL_vg (F := iv) (opV_call en13 rfl (fun w _ => aSin _  w)) rfl rfl rfl ?_; intro r10 hr10
  refine doL_v (opV_build la24 rfl rfl) rfl rfl rfl ?_
  refine doL_v (opV_eqA 4 rfl ag24 rfl rfl (ce24 _ _) (ce24 _ _)) rfl rfl rfl ?_
  refine doL_v (opV_pick_t rfl rfl rfl rfl) rfl rfl rfl ?_
  refine doL_v (opV_assign rfl) rfl rfl rfl ?_
  refine doL_nil ?_
  refine post_then ?_
  refine doC_ret ?_
  refine post_rets (rs := [.tmp 0]) rfl (resC (resIs_tmp rfl) (resN)) (congrArg (vB) (?_ : _ = true))
  exact eq_iv (hr10.trans sin_1)

theorem wChord (x : Int) (w : World) : Calls Try.prog 3 [.int .i64 x].toArray w (Rets (vB (true)) w) := by
  refine calls_of_doC (n := 34) Try.func3 rfl rfl rfl ?_
  refine doC_seq ?_
  refine doC_region ?_
  refine doL_v (opV_assign rfl) rfl rfl rfl ?_
  refine doL_nil ?_
  refine post_then ?_
  refine doC_seq ?_
  refine doC_region ?_
  refine doL_v (opV_move rfl) rfl rfl rfl ?_
  refine doL_vg (F := vI) (opV_call en12 rfl (fun w _ => mRound _ _ (by first | omega | assumption | (unfold In64; omega) | decide) w)) rfl rfl rfl ?_; intro r6 hr6
  have qr6 : 0 ≤ r6 ∧ r6 ≤ 16384 := by omega
  refine doL_v (opV_assign rfl) rfl rfl rfl ?_
  refine doL_nil ?_
  refine post_then ?_
  refine doC_seq ?_
  refine doC_region ?_
  refine doL_v (opV_move rfl) rfl rfl rfl ?_
  refine doL_vg (F := iv) (opV_call en13 rfl (fun w _ => aSin _  w)) rfl rfl rfl ?_; intro r8 hr8
  have fr8 := sin_facts qr6
  refine doL_alloc 4 ze24 rfl rfl rfl ?_; intro b4
  refine doL_store 4 ty24 rfl rfl rfl rfl rfl rfl rfl rfl ?_
  refine doL_nil ?_
  refine post_then ?_
  refine doC_seq ?_
  rw [← hr8] at fr8
  obtain ⟨f1, f2, f3, f4, f5, f6⟩ := fr8
  refine doC_region ?_
  refine doL_vg (F := vB) (opV_call en14 rfl (fun w _ => awake3   w)) rfl rfl rfl ?_; intro r9 hr9
  refine doL_v (opV_move rfl) rfl rfl rfl ?_
  refine doL_true 10 rfl (hr9) ?_
  refine doL_v (opV_fieldAddr fa24_1 rfl) rfl rfl rfl ?_
  refine doL_v (opV_load1 4 ty2 rfl rfl rfl) rfl rfl rfl ?_
  refine doL_v (opV_move rfl) rfl rfl rfl ?_
  refine doL_v (opV_mul rfl rfl (by first | exact i64_in ⟨by omega, by omega⟩ | rfl)) rfl rfl rfl ?_
  refine doL_v (opV_geq rfl rfl) rfl rfl rfl ?_
  refine doL_v (opV_pick_t rfl rfl rfl rfl) rfl rfl rfl ?_
  refine doL_v (opV_move rfl) rfl rfl rfl ?_
  refine doL_true 17 rfl (decide_eq_true (by omega)) ?_
  refine doL_v (opV_fieldAddr fa24_0 rfl) rfl rfl rfl ?_
  refine doL_v (opV_load1 4 ty2 rfl rfl rfl) rfl rfl rfl ?_
  refine doL_v (opV_move rfl) rfl rfl rfl ?_
  refine doL_v (opV_mul rfl rfl (by first | exact i64_in ⟨by omega, by omega⟩ | rfl)) rfl rfl rfl ?_
  refine doL_v (opV_sub rfl rfl (by first | exact i64_in ⟨by omega, by omega⟩ | rfl)) rfl rfl rfl ?_
  refine doL_v (opV_geq rfl rfl) rfl rfl rfl ?_
  refine doL_v (opV_pick_t rfl rfl rfl rfl) rfl rfl rfl ?_
  refine doL_v (opV_move rfl) rfl rfl rfl ?_
  refine doL_true 25 rfl (decide_eq_true (by omega)) ?_
  refine doL_v (opV_fieldAddr fa24_0 rfl) rfl rfl rfl ?_
  refine doL_v (opV_load1 4 ty2 rfl rfl rfl) rfl rfl rfl ?_
  refine doL_v (opV_move rfl) rfl rfl rfl ?_
  refine doL_v (opV_mul rfl rfl (by first | exact i64_in ⟨by omega, by omega⟩ | rfl)) rfl rfl rfl ?_
  refine doL_v (opV_quo rfl rfl (by first | decide | omega) (by first | exact (congrArg _ (tdiv_nonneg (by omega) (by omega))).trans (i64_in ⟨by omega, by omega⟩) | rfl)) rfl rfl rfl ?_
  refine doL_v (opV_add rfl rfl (by first | exact i64_in ⟨by omega, by omega⟩ | rfl)) rfl rfl rfl ?_
  refine doL_v (opV_leq rfl rfl) rfl rfl rfl ?_
  refine doL_v (opV_pick_t rfl rfl rfl rfl) rfl rfl rfl ?_
  refine doL_v (opV_assign rfl) rfl rfl rfl ?_
  refine doL_nil ?_
  refine post_then ?_
  refine doC_ret ?_
  refine post_rets (rs := [.tmp 2]) rfl (resC (resIs_tmp rfl) (resN)) (congrArg (vB) (?_ : _ = true))
  exact decide_eq_true (by omega)

theorem wValues (a : Int) (x : Int) (w : World) : Calls Try.prog 4 [.int .i64 a, .int .i64 x].toArray w (Rets (vB (true)) w) := by
  refine calls_of_doC (n := 38) Try.func4 rfl rfl rfl ?_
  refine doC_seq ?_
  refine doC_region ?_
  refine doL_v (opV_assign rfl) rfl rfl rfl ?_
  refine doL_nil ?_
  refine post_then ?_
  refine doC_seq ?_
  refine doC_region ?_
  refine doL_v (opV_move rfl) rfl rfl rfl ?_
  refine doL_vg (F := vI) (opV_call en12 rfl (fun w _ => mRound _ _ (by first | omega | assumption | (unfold In64; omega) | decide) w)) rfl rfl rfl ?_; intro r7 hr7
  refine doL_v (opV_sub rfl rfl (by first | exact i64_in ⟨by omega, by omega⟩ | rfl)) rfl rfl rfl ?_
  refine doL_v (opV_assign rfl) rfl rfl rfl ?_
  refine doL_nil ?_
  refine post_then ?_
  refine doC_seq ?_
  refine doC_region ?_
  refine doL_vg (F := vB) (opV_call en14 rfl (fun w _ => awake3   w)) rfl rfl rfl ?_; intro r9 hr9
  refine doL_v (opV_move rfl) rfl rfl rfl ?_
  refine doL_true 10 rfl (hr9) ?_
  refine doL_v (opV_move rfl) rfl rfl rfl ?_
  refine doL_vg (F := iv) (opV_call en13 rfl (fun w _ => aSin _  w)) rfl rfl rfl ?_; intro r12 hr12
  refine doL_v (opV_move rfl) rfl rfl rfl ?_
  refine doL_vg (F := iv) (opV_call en15 rfl (fun w _ => rSin _  w)) rfl rfl rfl ?_; intro r14 hr14
  refine doL_v (opV_eqA 4 rfl ag24 rfl rfl (ce24 _ _) (ce24 _ _)) rfl rfl rfl ?_
  refine doL_v (opV_pick_t rfl rfl rfl rfl) rfl rfl rfl ?_
  refine doL_v (opV_move rfl) rfl rfl rfl ?_
  refine doL_true 17 rfl (eq_iv' (hr12.trans hr14.symm)) ?_
  refine doL_v (opV_move rfl) rfl rfl rfl ?_
  refine doL_vg (F := iv) (opV_call en16 rfl (fun w _ => aCos _  w)) rfl rfl rfl ?_; intro r19 hr19
  refine doL_v (opV_move rfl) rfl rfl rfl ?_
  refine doL_vg (F := iv) (opV_call en17 rfl (fun w _ => rCos _  w)) rfl rfl rfl ?_; intro r21 hr21
  refine doL_v (opV_eqA 4 rfl ag24 rfl rfl (ce24 _ _) (ce24 _ _)) rfl rfl rfl ?_
  refine doL_v (opV_pick_t rfl rfl rfl rfl) rfl rfl rfl ?_
  refine doL_v (opV_move rfl) rfl rfl rfl ?_
  refine doL_true 24 rfl (eq_iv' (hr19.trans hr21.symm)) ?_
  refine doL_v (opV_move rfl) rfl rfl rfl ?_
  refine doL_vg (F := iv) (opV_call en13 rfl (fun w _ => aSin _  w)) rfl rfl rfl ?_; intro r26 hr26
  refine doL_v (opV_move rfl) rfl rfl rfl ?_
  refine doL_vg (F := iv) (opV_call en15 rfl (fun w _ => rSin _  w)) rfl rfl rfl ?_; intro r28 hr28
  refine doL_v (opV_eqA 4 rfl ag24 rfl rfl (ce24 _ _) (ce24 _ _)) rfl rfl rfl ?_
  refine doL_v (opV_pick_t rfl rfl rfl rfl) rfl rfl rfl ?_
  refine doL_v (opV_move rfl) rfl rfl rfl ?_
  refine doL_true 31 rfl (eq_iv' (hr26.trans hr28.symm)) ?_
  refine doL_v (opV_move rfl) rfl rfl rfl ?_
  refine doL_vg (F := iv) (opV_call en16 rfl (fun w _ => aCos _  w)) rfl rfl rfl ?_; intro r33 hr33
  refine doL_v (opV_move rfl) rfl rfl rfl ?_
  refine doL_vg (F := iv) (opV_call en17 rfl (fun w _ => rCos _  w)) rfl rfl rfl ?_; intro r35 hr35
  refine doL_v (opV_eqA 4 rfl ag24 rfl rfl (ce24 _ _) (ce24 _ _)) rfl rfl rfl ?_
  refine doL_v (opV_pick_t rfl rfl rfl rfl) rfl rfl rfl ?_
  refine doL_v (opV_assign rfl) rfl rfl rfl ?_
  refine doL_nil ?_
  refine post_then ?_
  refine doC_ret ?_
  refine post_rets (rs := [.tmp 4]) rfl (resC (resIs_tmp rfl) (resN)) (congrArg (vB) (?_ : _ = true))
  exact eq_iv' (hr33.trans hr35.symm)

theorem wRises (x : Int) (w : World) : Calls Try.prog 7 [.int .i64 x].toArray w (Rets (vB (true)) w) := by
  refine calls_of_doC (n := 49) Try.func7 rfl rfl rfl ?_
  refine doC_seq ?_
  refine doC_region ?_
  refine doL_v (opV_assign rfl) rfl rfl rfl ?_
  refine doL_nil ?_
  refine post_then ?_
  refine doC_seq ?_
  refine doC_region ?_
  refine doL_v (opV_move rfl) rfl rfl rfl ?_
  refine doL_vg (F := vI) (opV_call en12 rfl (fun w _ => mRound _ _ (by first | omega | assumption | (unfold In64; omega) | decide) w)) rfl rfl rfl ?_; intro r9 hr9
  have qr9 : 0 ≤ r9 ∧ r9 < 16384 := by omega
  refine doL_v (opV_assign rfl) rfl rfl rfl ?_
  refine doL_nil ?_
  refine post_then ?_
  refine doC_seq ?_
  refine doC_region ?_
  refine doL_v (opV_move rfl) rfl rfl rfl ?_
  refine doL_vg (F := iv) (opV_call en13 rfl (fun w _ => aSin _  w)) rfl rfl rfl ?_; intro r11 hr11
  refine doL_v (opV_move rfl) rfl rfl rfl ?_
  refine doL_v (opV_add rfl rfl (by first | exact i64_in ⟨by omega, by omega⟩ | rfl)) rfl rfl rfl ?_
  refine doL_vg (F := iv) (opV_call en13 rfl (fun w _ => aSin _  w)) rfl rfl rfl ?_; intro r14 hr14
  refine doL_alloc 4 ze24 rfl rfl rfl ?_; intro b4
  refine doL_alloc 5 ze24 rfl rfl rfl ?_; intro b5
  refine doL_store 4 ty24 rfl rfl rfl rfl rfl rfl rfl rfl ?_
  refine doL_store 5 ty24 rfl rfl rfl rfl rfl rfl rfl rfl ?_
  refine doL_nil ?_
  refine post_then ?_
  refine doC_seq ?_
  refine doC_region ?_
  refine doL_v (opV_move rfl) rfl rfl rfl ?_
  refine doL_vg (F := iv) (opV_call en16 rfl (fun w _ => aCos _  w)) rfl rfl rfl ?_; intro r16 hr16
  refine doL_v (opV_move rfl) rfl rfl rfl ?_
  refine doL_v (opV_add rfl rfl (by first | exact i64_in ⟨by omega, by omega⟩ | rfl)) rfl rfl rfl ?_
  refine doL_vg (F := iv) (opV_call en16 rfl (fun w _ => aCos _  w)) rfl rfl rfl ?_; intro r19 hr19
  refine doL_alloc 6 ze24 rfl rfl rfl ?_; intro b6
  refine doL_alloc 7 ze24 rfl rfl rfl ?_; intro b7
  refine doL_store 6 ty24 rfl rfl rfl rfl rfl rfl rfl rfl ?_
  refine doL_store 7 ty24 rfl rfl rfl rfl rfl rfl rfl rfl ?_
  refine doL_nil ?_
  refine post_then ?_
  refine doC_seq ?_
  have m1 := sin_mono qr9
  have m2 := cos_mono qr9
  rw [← hr11, ← hr14] at m1
  rw [← hr16, ← hr19] at m2
  refine doC_region ?_
  refine doL_vg (F := vB) (opV_call en14 rfl (fun w _ => awake3   w)) rfl rfl rfl ?_; intro r20 hr20
  refine doL_v (opV_move rfl) rfl rfl rfl ?_
  refine doL_true 21 rfl (hr20) ?_
  refine doL_v (opV_fieldAddr fa24_0 rfl) rfl rfl rfl ?_
  refine doL_v (opV_load1 4 ty2 rfl rfl rfl) rfl rfl rfl ?_
  refine doL_v (opV_fieldAddr fa24_0 rfl) rfl rfl rfl ?_
  refine doL_v (opV_load1 5 ty2 rfl rfl rfl) rfl rfl rfl ?_
  refine doL_v (opV_leq rfl rfl) rfl rfl rfl ?_
  refine doL_v (opV_pick_t rfl rfl rfl rfl) rfl rfl rfl ?_
  refine doL_v (opV_move rfl) rfl rfl rfl ?_
  refine doL_true 28 rfl (decide_eq_true (by omega)) ?_
  refine doL_v (opV_fieldAddr fa24_1 rfl) rfl rfl rfl ?_
  refine doL_v (opV_load1 4 ty2 rfl rfl rfl) rfl rfl rfl ?_
  refine doL_v (opV_fieldAddr fa24_1 rfl) rfl rfl rfl ?_
  refine doL_v (opV_load1 5 ty2 rfl rfl rfl) rfl rfl rfl ?_
  refine doL_v (opV_leq rfl rfl) rfl rfl rfl ?_
  refine doL_v (opV_pick_t rfl rfl rfl rfl) rfl rfl rfl ?_
  refine doL_v (opV_move rfl) rfl rfl rfl ?_
  refine doL_true 35 rfl (decide_eq_true (by omega)) ?_
  refine doL_v (opV_fieldAddr fa24_0 rfl) rfl rfl rfl ?_
  refine doL_v (opV_load1 6 ty2 rfl rfl rfl) rfl rfl rfl ?_
  refine doL_v (opV_fieldAddr fa24_0 rfl) rfl rfl rfl ?_
  refine doL_v (opV_load1 7 ty2 rfl rfl rfl) rfl rfl rfl ?_
  refine doL_v (opV_geq rfl rfl) rfl rfl rfl ?_
  refine doL_v (opV_pick_t rfl rfl rfl rfl) rfl rfl rfl ?_
  refine doL_v (opV_move rfl) rfl rfl rfl ?_
  refine doL_true 42 rfl (decide_eq_true (by omega)) ?_
  refine doL_v (opV_fieldAddr fa24_1 rfl) rfl rfl rfl ?_
  refine doL_v (opV_load1 6 ty2 rfl rfl rfl) rfl rfl rfl ?_
  refine doL_v (opV_fieldAddr fa24_1 rfl) rfl rfl rfl ?_
  refine doL_v (opV_load1 7 ty2 rfl rfl rfl) rfl rfl rfl ?_
  refine doL_v (opV_geq rfl rfl) rfl rfl rfl ?_
  refine doL_v (opV_pick_t rfl rfl rfl rfl) rfl rfl rfl ?_
  refine doL_v (opV_assign rfl) rfl rfl rfl ?_
  refine doL_nil ?_
  refine post_then ?_
  refine doC_ret ?_
  refine post_rets (rs := [.tmp 2]) rfl (resC (resIs_tmp rfl) (resN)) (congrArg (vB) (?_ : _ = true))
  exact decide_eq_true (by omega)

end Go.Proofs.Ytcbbdogjcooljaa

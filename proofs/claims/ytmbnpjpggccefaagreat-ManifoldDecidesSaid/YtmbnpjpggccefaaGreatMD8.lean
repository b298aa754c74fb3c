/- Part 8 of the texts behind the last one: rules and contracts. No condition. -/
import Derived.Test.YtmbnpjpggccefaaGreatMD7
namespace Go.Proofs.YtmbnpjpggccefaaGreat
open Go.Sx
theorem qYQ : qUK Tryz.prog 71 0 0 = true := by kernel_rfl
theorem ty2 : tyB Tryz.prog 2 false 1 = true := by kernel_rfl
theorem qYG : qUK Tryz.prog 71 1 1 = true := by kernel_rfl
theorem ze71 : qZY Tryz.prog 71 (.agg #[.int .i64 0, .int .i64 0]) := by unfold qZY; kernel_rfl
theorem en161 : yG Tryz.prog 161 := zZ Tryz.func161 (by kernel_rfl) (by kernel_rfl)
theorem la71 : qZW Tryz.prog 71 = some ([.int .i64 0, .int .i64 0], [(0, 1), (1, 1)]) := by kernel_rfl
theorem ty71 : tyB Tryz.prog 71 true 2 = true := by kernel_rfl
theorem en61 : yG Tryz.prog 61 := zZ Tryz.func61 (by kernel_rfl) (by kernel_rfl)
theorem en145 : yG Tryz.prog 145 := zZ Tryz.func145 (by kernel_rfl) (by kernel_rfl)
theorem en107 : yG Tryz.prog 107 := zZ Tryz.func107 (by kernel_rfl) (by kernel_rfl)
theorem en147 : yG Tryz.prog 147 := zZ Tryz.func147 (by kernel_rfl) (by kernel_rfl)
theorem en148 : yG Tryz.prog 148 := zZ Tryz.func148 (by kernel_rfl) (by kernel_rfl)
theorem en134 : yG Tryz.prog 134 := zZ Tryz.func134 (by kernel_rfl) (by kernel_rfl)
theorem mo : Tryz.prog.follows .mixedOrders = true := by kernel_rfl
theorem en149 : yG Tryz.prog 149 := zZ Tryz.func149 (by kernel_rfl) (by kernel_rfl)
theorem en150 : yG Tryz.prog 150 := zZ Tryz.func150 (by kernel_rfl) (by kernel_rfl)
theorem zZG (a0 a1 : Int) (w : World) : Calls Tryz.prog 107 [.agg #[.int .i64 a0, .int .i64 a1]].toArray w (Rets (vB (Iv.valid (⟨a0, a1⟩ : Iv))) (w)) := by
 refine zK (n := 18) Tryz.func107 rfl rfl rfl ?_
 refine qK ?_
 refine qZ ?_
 refine jJ 1 rfl rfl rfl rfl ?_; intro b1
 refine qY (qW rfl) rfl rfl rfl ?_
 refine qJ ?_
 refine qQ ?_
 refine qK ?_
 refine qZ ?_
 refine qY (qX qYQ rfl) rfl rfl rfl ?_
 refine qY (zW 1 ty2 rfl rfl rfl) rfl rfl rfl ?_
 refine qY (qWJ rfl rfl) rfl rfl rfl ?_
 refine qY (qU rfl) rfl rfl rfl ?_
 refine qYJ 6 rfl (fun hg6 => ?_) (fun hg6 => ?_)
 ·
  refine qY (qX qYQ rfl) rfl rfl rfl ?_
  refine qY (zW 1 ty2 rfl rfl rfl) rfl rfl rfl ?_
  refine qY (qX qYG rfl) rfl rfl rfl ?_
  refine qY (zW 1 ty2 rfl rfl rfl) rfl rfl rfl ?_
  refine qY (qWJ rfl rfl) rfl rfl rfl ?_
  refine qY (qQW rfl rfl rfl rfl) rfl rfl rfl ?_
  refine qY (qU rfl) rfl rfl rfl ?_
  refine qYJ 13 rfl (fun hg13 => ?_) (fun hg13 => ?_)
  ·
   refine qY (qX qYG rfl) rfl rfl rfl ?_
   refine qY (zW 1 ty2 rfl rfl rfl) rfl rfl rfl ?_
   refine qY (qWJ rfl rfl) rfl rfl rfl ?_
   refine qY (qQW rfl rfl rfl rfl) rfl rfl rfl ?_
   refine qY (qW rfl) rfl rfl rfl ?_
   refine qJ ?_
   refine qQ ?_
   refine zV ?_
   refine zQ (rs := [.tmp 2]) rfl (resC (yH rfl) (resN)) (congrArg (vB) (?_ : _ = Iv.valid (⟨a0, a1⟩ : Iv)))
   simp only [Iv.valid, *, Bool.and_false, Bool.and_true, Bool.true_and, Bool.false_and]
  ·
   refine yZ rfl rfl rfl ?_
   refine yZ rfl rfl rfl ?_
   refine yZ rfl rfl rfl ?_
   refine qY (kW rfl rfl rfl rfl) rfl rfl rfl ?_
   refine qY (qW rfl) rfl rfl rfl ?_
   refine qJ ?_
   refine qQ ?_
   refine zV ?_
   refine zQ (rs := [.tmp 2]) rfl (resC (yH rfl) (resN)) (congrArg (vB) (?_ : _ = Iv.valid (⟨a0, a1⟩ : Iv)))
   simp only [Iv.valid, *, Bool.and_false, Bool.and_true, Bool.true_and, Bool.false_and]
 ·
  refine yZ rfl rfl rfl ?_
  refine yZ rfl rfl rfl ?_
  refine yZ rfl rfl rfl ?_
  refine yZ rfl rfl rfl ?_
  refine yZ rfl rfl rfl ?_
  refine qY (kW rfl rfl rfl rfl) rfl rfl rfl ?_
  refine qY (qU rfl) rfl rfl rfl ?_
  refine yZ rfl rfl rfl ?_
  refine yZ rfl rfl rfl ?_
  refine yZ rfl rfl rfl ?_
  refine qY (kW rfl rfl rfl rfl) rfl rfl rfl ?_
  refine qY (qW rfl) rfl rfl rfl ?_
  refine qJ ?_
  refine qQ ?_
  refine zV ?_
  refine zQ (rs := [.tmp 2]) rfl (resC (yH rfl) (resN)) (congrArg (vB) (?_ : _ = Iv.valid (⟨a0, a1⟩ : Iv)))
  simp only [Iv.valid, *, Bool.and_false, Bool.and_true, Bool.true_and, Bool.false_and]
theorem zQQ (a0 a1 : Int) (w : World) : Calls Tryz.prog 147 [.agg #[.int .i64 a0, .int .i64 a1]].toArray w (Rets (vB (Iv.valid (⟨a0, a1⟩ : Iv))) (w)) := by
 refine zK (n := 18) Tryz.func147 rfl rfl rfl ?_
 refine qK ?_
 refine qZ ?_
 refine jJ 1 rfl rfl rfl rfl ?_; intro b1
 refine qY (qW rfl) rfl rfl rfl ?_
 refine qJ ?_
 refine qQ ?_
 refine qK ?_
 refine qZ ?_
 refine qY (qX qYQ rfl) rfl rfl rfl ?_
 refine qY (zW 1 ty2 rfl rfl rfl) rfl rfl rfl ?_
 refine qY (qWJ rfl rfl) rfl rfl rfl ?_
 refine qY (qU rfl) rfl rfl rfl ?_
 refine qYJ 6 rfl (fun hg6 => ?_) (fun hg6 => ?_)
 ·
  refine qY (qX qYQ rfl) rfl rfl rfl ?_
  refine qY (zW 1 ty2 rfl rfl rfl) rfl rfl rfl ?_
  refine qY (qX qYG rfl) rfl rfl rfl ?_
  refine qY (zW 1 ty2 rfl rfl rfl) rfl rfl rfl ?_
  refine qY (qWJ rfl rfl) rfl rfl rfl ?_
  refine qY (qQW rfl rfl rfl rfl) rfl rfl rfl ?_
  refine qY (qU rfl) rfl rfl rfl ?_
  refine qYJ 13 rfl (fun hg13 => ?_) (fun hg13 => ?_)
  ·
   refine qY (qX qYG rfl) rfl rfl rfl ?_
   refine qY (zW 1 ty2 rfl rfl rfl) rfl rfl rfl ?_
   refine qY (qWJ rfl rfl) rfl rfl rfl ?_
   refine qY (qQW rfl rfl rfl rfl) rfl rfl rfl ?_
   refine qY (qW rfl) rfl rfl rfl ?_
   refine qJ ?_
   refine qQ ?_
   refine zV ?_
   refine zQ (rs := [.tmp 2]) rfl (resC (yH rfl) (resN)) (congrArg (vB) (?_ : _ = Iv.valid (⟨a0, a1⟩ : Iv)))
   simp only [Iv.valid, *, Bool.and_false, Bool.and_true, Bool.true_and, Bool.false_and]
  ·
   refine yZ rfl rfl rfl ?_
   refine yZ rfl rfl rfl ?_
   refine yZ rfl rfl rfl ?_
   refine qY (kW rfl rfl rfl rfl) rfl rfl rfl ?_
   refine qY (qW rfl) rfl rfl rfl ?_
   refine qJ ?_
   refine qQ ?_
   refine zV ?_
   refine zQ (rs := [.tmp 2]) rfl (resC (yH rfl) (resN)) (congrArg (vB) (?_ : _ = Iv.valid (⟨a0, a1⟩ : Iv)))
   simp only [Iv.valid, *, Bool.and_false, Bool.and_true, Bool.true_and, Bool.false_and]
 ·
  refine yZ rfl rfl rfl ?_
  refine yZ rfl rfl rfl ?_
  refine yZ rfl rfl rfl ?_
  refine yZ rfl rfl rfl ?_
  refine yZ rfl rfl rfl ?_
  refine qY (kW rfl rfl rfl rfl) rfl rfl rfl ?_
  refine qY (qU rfl) rfl rfl rfl ?_
  refine yZ rfl rfl rfl ?_
  refine yZ rfl rfl rfl ?_
  refine yZ rfl rfl rfl ?_
  refine qY (kW rfl rfl rfl rfl) rfl rfl rfl ?_
  refine qY (qW rfl) rfl rfl rfl ?_
  refine qJ ?_
  refine qQ ?_
  refine zV ?_
  refine zQ (rs := [.tmp 2]) rfl (resC (yH rfl) (resN)) (congrArg (vB) (?_ : _ = Iv.valid (⟨a0, a1⟩ : Iv)))
  simp only [Iv.valid, *, Bool.and_false, Bool.and_true, Bool.true_and, Bool.false_and]
theorem fClamp (a : Int) (w : World) : Calls Tryz.prog 161 [.int .i64 a].toArray w (Rets (vI (qJX a)) (w)) := by
 refine zK (n := 6) Tryz.func161 rfl rfl rfl ?_
 refine qK ?_
 refine qZ ?_
 refine qY (qW rfl) rfl rfl rfl ?_
 refine qJ ?_
 refine qQ ?_
 refine qK ?_
 refine qZ ?_
 refine qY (qU rfl) rfl rfl rfl ?_
 refine qY (qWY rfl rfl) rfl rfl rfl ?_
 refine qY (qJZ rfl rfl) rfl rfl rfl ?_
 refine qY (qW rfl) rfl rfl rfl ?_
 refine qJ ?_
 refine qQ ?_
 refine zV ?_
 refine zQ (rs := [.tmp 2]) rfl (resC (yH rfl) (resN)) (congrArg (vI) (?_ : _ = qJX a))
 first | rfl | (subst_vars; rfl) | (subst_vars; simp_all)
theorem rClamp (a : Int) (w : World) : Calls Tryz.prog 61 [.int .i64 a].toArray w (Rets (vI (qJX a)) (w)) := by
 refine zK (n := 6) Tryz.func61 rfl rfl rfl ?_
 refine qK ?_
 refine qZ ?_
 refine qY (qW rfl) rfl rfl rfl ?_
 refine qJ ?_
 refine qQ ?_
 refine qK ?_
 refine qZ ?_
 refine qY (qU rfl) rfl rfl rfl ?_
 refine qY (qJZ rfl rfl) rfl rfl rfl ?_
 refine qY (qWY rfl rfl) rfl rfl rfl ?_
 refine qY (qW rfl) rfl rfl rfl ?_
 refine qJ ?_
 refine qQ ?_
 refine zV ?_
 refine zQ (rs := [.tmp 2]) rfl (resC (yH rfl) (resN)) (congrArg (vI) (?_ : _ = qJX a))
 unfold qJX; omega
theorem fShiftDown (a : Int) (k : Int) (h0 : 0 ≤ k ∧ k ≤ 62) (w : World) : Calls Tryz.prog 167 [.int .i64 a, .int .i64 k].toArray w (Rets (vI (a / 2 ^ (k).toNat)) (w)) := by
 refine zK (n := 11) Tryz.func167 rfl rfl rfl ?_
 refine qK ?_
 refine qZ ?_
 refine qY (qW rfl) rfl rfl rfl ?_
 refine qJ ?_
 refine qQ ?_
 refine qK ?_
 refine qK ?_
 refine qZ ?_
 refine qY (qU rfl) rfl rfl rfl ?_
 refine qY (qZJ rfl rfl) rfl rfl rfl ?_
 refine qJ ?_
 refine qQ ?_
 refine doC_cond_f rfl (by simp; omega) ?_
 refine yU ?_
 refine qQ ?_
 refine qK ?_
 refine qZ ?_
 refine qY (qU rfl) rfl rfl rfl ?_
 refine qY (qU rfl) rfl rfl rfl ?_
 refine qY (opV_shr rfl rfl (by first | decide | omega) (shr_eq (by omega) (by omega))) rfl rfl rfl ?_
 refine qY (qW rfl) rfl rfl rfl ?_
 refine qJ ?_
 refine qQ ?_
 refine zV ?_
 refine zQ (rs := [.tmp 4]) rfl (resC (yH rfl) (resN)) (congrArg (vI) (?_ : _ = a / 2 ^ (k).toNat))
 first | rfl | (subst_vars; rfl) | (subst_vars; simp_all)
theorem fShiftUp (a : Int) (k : Int) (h0 : 0 ≤ k ∧ k ≤ 62) (ha : In64 a) (w : World) : Calls Tryz.prog 168 [.int .i64 a, .int .i64 k].toArray w (Rets (vI (ceilI a (2 ^ (k).toNat))) (w)) := by
 refine zK (n := 20) Tryz.func168 rfl rfl rfl ?_
 refine qK ?_
 refine qZ ?_
 refine qY (qW rfl) rfl rfl rfl ?_
 refine qJ ?_
 refine qQ ?_
 refine qK ?_
 refine qK ?_
 refine qZ ?_
 refine qY (qU rfl) rfl rfl rfl ?_
 refine qY (qZJ rfl rfl) rfl rfl rfl ?_
 refine qJ ?_
 refine qQ ?_
 refine doC_cond_f rfl (by simp; omega) ?_
 refine yU ?_
 refine qQ ?_
 refine qK ?_
 refine qZ ?_
 refine qY (qU rfl) rfl rfl rfl ?_
 refine qY (qU rfl) rfl rfl rfl ?_
 refine qY (opV_shr rfl rfl (by first | decide | omega) (shr_eq (by omega) (by omega))) rfl rfl rfl ?_
 refine qY (qW rfl) rfl rfl rfl ?_
 refine qJ ?_
 refine qQ ?_
 refine qK ?_
 refine qK ?_
 refine qZ ?_
 refine qY (qU rfl) rfl rfl rfl ?_
 refine qY (qU rfl) rfl rfl rfl ?_
 refine qY (opV_shl rfl rfl (by first | decide | omega) (shl_eq ha (by omega) (by omega))) rfl rfl rfl ?_
 refine qY (qU rfl) rfl rfl rfl ?_
 refine qY (opV_neq rfl rfl) rfl rfl rfl ?_
 refine qJ ?_
 refine qQ ?_
 refine yX rfl (fun hc16 => ?_) (fun hc16 => ?_)
 ·
  have h1 : ¬ a / 2 ^ k.toNat * 2 ^ k.toNat = a := by simpa using hc16
  have h2 := ceil_of_ne (Int.pow_pos (by decide)) h1
  refine qZ ?_
  refine qY (qU rfl) rfl rfl rfl ?_
  refine qY (jU rfl rfl (zX (shiftUp_bnd ha h1))) rfl rfl rfl ?_
  refine qY (qW rfl) rfl rfl rfl ?_
  refine qJ ?_
  refine qQ ?_
  refine qK ?_
  refine qZ ?_
  refine qY (qU rfl) rfl rfl rfl ?_
  refine qY (qW rfl) rfl rfl rfl ?_
  refine qJ ?_
  refine qQ ?_
  refine zV ?_
  refine zQ (rs := [.tmp 4]) rfl (resC (yH rfl) (resN)) (congrArg (vI) (?_ : _ = ceilI a (2 ^ (k).toNat)))
  exact h2
 ·
  have h1 : a / 2 ^ k.toNat * 2 ^ k.toNat = a := by simpa using hc16
  have h2 := ceil_of_mul (Int.pow_pos (by decide)) h1
  refine yU ?_
  refine qQ ?_
  refine qK ?_
  refine qZ ?_
  refine qY (qU rfl) rfl rfl rfl ?_
  refine qY (qW rfl) rfl rfl rfl ?_
  refine qJ ?_
  refine qQ ?_
  refine zV ?_
  refine zQ (rs := [.tmp 4]) rfl (resC (yH rfl) (resN)) (congrArg (vI) (?_ : _ = ceilI a (2 ^ (k).toNat)))
  exact h2
theorem rFloor (a : Int) (b : Int) (ha : In64 a) (hb : 0 < b) (w : World) : Calls Tryz.prog 149 [.int .i64 a, .int .i64 b].toArray w (Rets (vI (a / b)) (w)) := by
 refine zK (n := 16) Tryz.func149 rfl rfl rfl ?_
 refine qK ?_
 have hq := tdiv_bnd ha hb
 refine qZ ?_
 refine qY (qW rfl) rfl rfl rfl ?_
 refine qJ ?_
 refine qQ ?_
 refine qK ?_
 refine qZ ?_
 refine qY (qU rfl) rfl rfl rfl ?_
 refine qY (qU rfl) rfl rfl rfl ?_
 refine qY (qWZ rfl rfl (by first | decide | omega) (zX hq)) rfl rfl rfl ?_
 refine qY (qW rfl) rfl rfl rfl ?_
 refine qJ ?_
 refine qQ ?_
 refine qK ?_
 refine qK ?_
 refine qZ ?_
 refine qY (qU rfl) rfl rfl rfl ?_
 refine qY (qU rfl) rfl rfl rfl ?_
 refine qY (opV_rem rfl rfl (by first | decide | omega) rfl) rfl rfl rfl ?_
 refine qY (qZJ rfl rfl) rfl rfl rfl ?_
 refine qJ ?_
 refine qQ ?_
 refine yX rfl (fun hc12 => ?_) (fun hc12 => ?_)
 ·
  refine qZ ?_
  refine qY (qU rfl) rfl rfl rfl ?_
  refine qY (qZQ rfl rfl (zX (floor_bnd ha hb (by simpa using hc12)))) rfl rfl rfl ?_
  refine qY (qW rfl) rfl rfl rfl ?_
  refine qJ ?_
  refine qQ ?_
  refine qK ?_
  refine qZ ?_
  refine qY (qU rfl) rfl rfl rfl ?_
  refine qY (qW rfl) rfl rfl rfl ?_
  refine qJ ?_
  refine qQ ?_
  refine zV ?_
  refine zQ (rs := [.tmp 4]) rfl (resC (yH rfl) (resN)) (congrArg (vI) (?_ : _ = a / b))
  exact floor_neg hb (by simpa using hc12)
 ·
  refine yU ?_
  refine qQ ?_
  refine qK ?_
  refine qZ ?_
  refine qY (qU rfl) rfl rfl rfl ?_
  refine qY (qW rfl) rfl rfl rfl ?_
  refine qJ ?_
  refine qQ ?_
  refine zV ?_
  refine zQ (rs := [.tmp 4]) rfl (resC (yH rfl) (resN)) (congrArg (vI) (?_ : _ = a / b))
  exact floor_pos hb (by simpa using hc12)
theorem rCeil (a : Int) (b : Int) (ha : In64 a) (hb : 0 < b) (w : World) : Calls Tryz.prog 150 [.int .i64 a, .int .i64 b].toArray w (Rets (vI (ceilI a b)) (w)) := by
 refine zK (n := 16) Tryz.func150 rfl rfl rfl ?_
 refine qK ?_
 have hq := tdiv_bnd ha hb
 refine qZ ?_
 refine qY (qW rfl) rfl rfl rfl ?_
 refine qJ ?_
 refine qQ ?_
 refine qK ?_
 refine qZ ?_
 refine qY (qU rfl) rfl rfl rfl ?_
 refine qY (qU rfl) rfl rfl rfl ?_
 refine qY (qWZ rfl rfl (by first | decide | omega) (zX hq)) rfl rfl rfl ?_
 refine qY (qW rfl) rfl rfl rfl ?_
 refine qJ ?_
 refine qQ ?_
 refine qK ?_
 refine qK ?_
 refine qZ ?_
 refine qY (qU rfl) rfl rfl rfl ?_
 refine qY (qU rfl) rfl rfl rfl ?_
 refine qY (opV_rem rfl rfl (by first | decide | omega) rfl) rfl rfl rfl ?_
 refine qY (opV_gtr rfl rfl) rfl rfl rfl ?_
 refine qJ ?_
 refine qQ ?_
 refine yX rfl (fun hc12 => ?_) (fun hc12 => ?_)
 ·
  refine qZ ?_
  refine qY (qU rfl) rfl rfl rfl ?_
  refine qY (jU rfl rfl (zX (ceil_bnd ha hb (by simpa using hc12)))) rfl rfl rfl ?_
  refine qY (qW rfl) rfl rfl rfl ?_
  refine qJ ?_
  refine qQ ?_
  refine qK ?_
  refine qZ ?_
  refine qY (qU rfl) rfl rfl rfl ?_
  refine qY (qW rfl) rfl rfl rfl ?_
  refine qJ ?_
  refine qQ ?_
  refine zV ?_
  refine zQ (rs := [.tmp 4]) rfl (resC (yH rfl) (resN)) (congrArg (vI) (?_ : _ = ceilI a b))
  exact ceil_pos hb (by simpa using hc12)
 ·
  refine yU ?_
  refine qQ ?_
  refine qK ?_
  refine qZ ?_
  refine qY (qU rfl) rfl rfl rfl ?_
  refine qY (qW rfl) rfl rfl rfl ?_
  refine qJ ?_
  refine qQ ?_
  refine zV ?_
  refine zQ (rs := [.tmp 4]) rfl (resC (yH rfl) (resN)) (congrArg (vI) (?_ : _ = ceilI a b))
  exact ceil_neg hb (by simpa using hc12)
theorem iLimited (lo : Int) (hi : Int) (w : World) : Calls Tryz.prog 145 [.int .i64 lo, .int .i64 hi].toArray w (Rets (iv (Iv.limited lo hi)) (w)) := by
 refine zK (n := 10) Tryz.func145 rfl rfl rfl ?_
 refine qK ?_
 refine qZ ?_
 refine yK 4 ze71 rfl rfl rfl ?_; intro b4
 refine qJ ?_
 refine qQ ?_
 refine qK ?_
 refine qZ ?_
 refine qY (qU rfl) rfl rfl rfl ?_
 refine jG (F := vI) (zY en161 rfl (fun w _ => fClamp _  w)) rfl rfl rfl ?_; intro r6 hr6
 refine qY (qU rfl) rfl rfl rfl ?_
 refine jG (F := vI) (zY en161 rfl (fun w _ => fClamp _  w)) rfl rfl rfl ?_; intro r8 hr8
 refine qY (zU la71 rfl rfl) rfl rfl rfl ?_
 refine qG 4 ty71 rfl rfl rfl rfl rfl rfl rfl rfl ?_
 refine qJ ?_
 refine qQ ?_
 refine zV ?_
 refine zQ (rs := [.cell 4 71]) rfl (resC (zJ 4 rfl rfl ty71 rfl) (resN)) (congrArg (iv) (?_ : ⟨_, _⟩ = Iv.limited lo hi))
 first | rfl | (subst_vars; rfl) | (subst_vars; simp_all)
theorem rLimited (lo : Int) (hi : Int) (w : World) : Calls Tryz.prog 148 [.int .i64 lo, .int .i64 hi].toArray w (Rets (iv (Iv.limited lo hi)) (w)) := by
 refine zK (n := 10) Tryz.func148 rfl rfl rfl ?_
 refine qK ?_
 refine qZ ?_
 refine yK 4 ze71 rfl rfl rfl ?_; intro b4
 refine qJ ?_
 refine qQ ?_
 refine qK ?_
 refine qZ ?_
 refine qY (qU rfl) rfl rfl rfl ?_
 refine jG (F := vI) (zY en61 rfl (fun w _ => rClamp _  w)) rfl rfl rfl ?_; intro r6 hr6
 refine qY (qU rfl) rfl rfl rfl ?_
 refine jG (F := vI) (zY en61 rfl (fun w _ => rClamp _  w)) rfl rfl rfl ?_; intro r8 hr8
 refine qY (zU la71 rfl rfl) rfl rfl rfl ?_
 refine qG 4 ty71 rfl rfl rfl rfl rfl rfl rfl rfl ?_
 refine qJ ?_
 refine qQ ?_
 refine zV ?_
 refine zQ (rs := [.cell 4 71]) rfl (resC (zJ 4 rfl rfl ty71 rfl) (resN)) (congrArg (iv) (?_ : ⟨_, _⟩ = Iv.limited lo hi))
 first | rfl | (subst_vars; rfl) | (subst_vars; simp_all)
theorem iOf (x : Int) (w : World) : Calls Tryz.prog 99 [.int .i64 x].toArray w (Rets (iv (Iv.of x)) (w)) := by
 refine zK (n := 6) Tryz.func99 rfl rfl rfl ?_
 refine qK ?_
 refine qZ ?_
 refine yK 2 ze71 rfl rfl rfl ?_; intro b2
 refine qJ ?_
 refine qQ ?_
 refine qK ?_
 refine qZ ?_
 refine qY (qU rfl) rfl rfl rfl ?_
 refine qY (qU rfl) rfl rfl rfl ?_
 refine jG (F := iv) (zY en145 rfl (fun w _ => iLimited _ _  w)) rfl rfl rfl ?_; intro r5 hr5
 refine qG 2 ty71 rfl rfl rfl rfl rfl rfl rfl rfl ?_
 refine qJ ?_
 refine qQ ?_
 refine zV ?_
 refine zQ (rs := [.cell 2 71]) rfl (resC (zJ 2 rfl rfl ty71 rfl) (resN)) (congrArg (iv) (?_ : ⟨_, _⟩ = Iv.of x))
 first | rfl | (subst_vars; rfl) | (subst_vars; simp_all)
theorem rOf (x : Int) (w : World) : Calls Tryz.prog 31 [.int .i64 x].toArray w (Rets (iv (Iv.of x)) (w)) := by
 refine zK (n := 8) Tryz.func31 rfl rfl rfl ?_
 refine qK ?_
 refine qZ ?_
 refine yK 2 ze71 rfl rfl rfl ?_; intro b2
 refine qJ ?_
 refine qQ ?_
 refine qK ?_
 refine qZ ?_
 refine qY (qU rfl) rfl rfl rfl ?_
 refine jG (F := vI) (zY en61 rfl (fun w _ => rClamp _  w)) rfl rfl rfl ?_; intro r4 hr4
 refine qY (qU rfl) rfl rfl rfl ?_
 refine jG (F := vI) (zY en61 rfl (fun w _ => rClamp _  w)) rfl rfl rfl ?_; intro r6 hr6
 refine qY (zU la71 rfl rfl) rfl rfl rfl ?_
 refine qG 2 ty71 rfl rfl rfl rfl rfl rfl rfl rfl ?_
 refine qJ ?_
 refine qQ ?_
 refine zV ?_
 refine zQ (rs := [.cell 2 71]) rfl (resC (zJ 2 rfl rfl ty71 rfl) (resN)) (congrArg (iv) (?_ : ⟨_, _⟩ = Iv.of x))
 first | rfl | (subst_vars; rfl) | (subst_vars; simp_all)
theorem iNeg (a0 a1 : Int) (w : World) : Calls Tryz.prog 171 [.agg #[.int .i64 a0, .int .i64 a1]].toArray w (Rets (iv (Iv.neg (⟨a0, a1⟩ : Iv))) (w)) := by
 refine zK (n := 14) Tryz.func171 rfl rfl rfl ?_
 refine qK ?_
 refine qZ ?_
 refine jJ 1 rfl rfl rfl rfl ?_; intro b1
 refine yK 2 ze71 rfl rfl rfl ?_; intro b2
 refine qJ ?_
 refine qQ ?_
 refine qK ?_
 refine qK ?_
 refine qZ ?_
 refine qY (qV 1 ty71 rfl rfl rfl) rfl rfl rfl ?_
 refine jG (F := vB) (zY en107 rfl (fun w _ => zZG _ _  w)) rfl rfl rfl ?_; intro r4 hr4
 refine qY (qUW rfl) rfl rfl rfl ?_
 refine qJ ?_
 refine qQ ?_
 refine yX rfl (fun hc5 => ?_) (fun hc5 => ?_)
 ·
  simp only [Bool.not_eq_true'] at hc5
  refine qK ?_
  refine qZ ?_
  refine qY (zU la71 rfl rfl) rfl rfl rfl ?_
  refine qG 2 ty71 rfl rfl rfl rfl rfl rfl rfl rfl ?_
  refine qJ ?_
  refine qQ ?_
  refine zV ?_
  refine jZ ?_
  refine zQ (rs := [.cell 2 71]) rfl (resC (zJ 2 rfl rfl ty71 rfl) (resN)) (congrArg (iv) (?_ : ⟨_, _⟩ = Iv.neg (⟨a0, a1⟩ : Iv)))
  subst_vars; first | (simp_all [Iv.neg]; done) | (simp_all [Iv.neg] <;> omega) | grind [Iv.neg]
 ·
  simp only [Bool.not_eq_false'] at hc5
  have hv := qYX (hr4.symm.trans hc5)
  refine yU ?_
  refine qQ ?_
  refine qK ?_
  refine qZ ?_
  refine qY (qX qYG rfl) rfl rfl rfl ?_
  refine qY (zW 1 ty2 rfl rfl rfl) rfl rfl rfl ?_
  refine qY (qKW rfl (by first | exact qVX ⟨by omega, by omega⟩ | rfl)) rfl rfl rfl ?_
  refine qY (qX qYQ rfl) rfl rfl rfl ?_
  refine qY (zW 1 ty2 rfl rfl rfl) rfl rfl rfl ?_
  refine qY (qKW rfl (by first | exact qVX ⟨by omega, by omega⟩ | rfl)) rfl rfl rfl ?_
  refine qY (zU la71 rfl rfl) rfl rfl rfl ?_
  refine qG 2 ty71 rfl rfl rfl rfl rfl rfl rfl rfl ?_
  refine qJ ?_
  refine qQ ?_
  refine zV ?_
  refine zQ (rs := [.cell 2 71]) rfl (resC (zJ 2 rfl rfl ty71 rfl) (resN)) (congrArg (iv) (?_ : ⟨_, _⟩ = Iv.neg (⟨a0, a1⟩ : Iv)))
  subst_vars; first | (simp_all [Iv.neg]; done) | (simp_all [Iv.neg] <;> omega) | grind [Iv.neg]
theorem rNeg (a0 a1 : Int) (w : World) : Calls Tryz.prog 165 [.agg #[.int .i64 a0, .int .i64 a1]].toArray w (Rets (iv (Iv.neg (⟨a0, a1⟩ : Iv))) (w)) := by
 refine zK (n := 14) Tryz.func165 rfl rfl rfl ?_
 refine qK ?_
 refine qZ ?_
 refine jJ 1 rfl rfl rfl rfl ?_; intro b1
 refine yK 2 ze71 rfl rfl rfl ?_; intro b2
 refine qJ ?_
 refine qQ ?_
 refine qK ?_
 refine qK ?_
 refine qZ ?_
 refine qY (qV 1 ty71 rfl rfl rfl) rfl rfl rfl ?_
 refine jG (F := vB) (zY en147 rfl (fun w _ => zQQ _ _  w)) rfl rfl rfl ?_; intro r4 hr4
 refine qY (qUW rfl) rfl rfl rfl ?_
 refine qJ ?_
 refine qQ ?_
 refine yX rfl (fun hc5 => ?_) (fun hc5 => ?_)
 ·
  simp only [Bool.not_eq_true'] at hc5
  refine qK ?_
  refine qZ ?_
  refine qY (zU la71 rfl rfl) rfl rfl rfl ?_
  refine qG 2 ty71 rfl rfl rfl rfl rfl rfl rfl rfl ?_
  refine qJ ?_
  refine qQ ?_
  refine zV ?_
  refine jZ ?_
  refine zQ (rs := [.cell 2 71]) rfl (resC (zJ 2 rfl rfl ty71 rfl) (resN)) (congrArg (iv) (?_ : ⟨_, _⟩ = Iv.neg (⟨a0, a1⟩ : Iv)))
  subst_vars; first | (simp_all [Iv.neg]; done) | (simp_all [Iv.neg] <;> omega) | grind [Iv.neg]
 ·
  simp only [Bool.not_eq_false'] at hc5
  have hv := qYX (hr4.symm.trans hc5)
  refine yU ?_
  refine qQ ?_
  refine qK ?_
  refine qZ ?_
  refine qY (qX qYG rfl) rfl rfl rfl ?_
  refine qY (zW 1 ty2 rfl rfl rfl) rfl rfl rfl ?_
  refine qY (qKW rfl (by first | exact qVX ⟨by omega, by omega⟩ | rfl)) rfl rfl rfl ?_
  refine qY (qX qYQ rfl) rfl rfl rfl ?_
  refine qY (zW 1 ty2 rfl rfl rfl) rfl rfl rfl ?_
  refine qY (qKW rfl (by first | exact qVX ⟨by omega, by omega⟩ | rfl)) rfl rfl rfl ?_
  refine qY (zU la71 rfl rfl) rfl rfl rfl ?_
  refine qG 2 ty71 rfl rfl rfl rfl rfl rfl rfl rfl ?_
  refine qJ ?_
  refine qQ ?_
  refine zV ?_
  refine zQ (rs := [.cell 2 71]) rfl (resC (zJ 2 rfl rfl ty71 rfl) (resN)) (congrArg (iv) (?_ : ⟨_, _⟩ = Iv.neg (⟨a0, a1⟩ : Iv)))
  subst_vars; first | (simp_all [Iv.neg]; done) | (simp_all [Iv.neg] <;> omega) | grind [Iv.neg]
theorem iValid2 (a0 a1 : Int) (b0 b1 : Int) (w : World) : Calls Tryz.prog 134 [.agg #[.int .i64 a0, .int .i64 a1], .agg #[.int .i64 b0, .int .i64 b1]].toArray w (Rets (vB ((Iv.valid (⟨a0, a1⟩ : Iv) && Iv.valid (⟨b0, b1⟩ : Iv)))) (w)) := by
 refine zK (n := 11) Tryz.func134 rfl rfl rfl ?_
 refine qK ?_
 refine qZ ?_
 refine jJ 2 rfl rfl rfl rfl ?_; intro b2
 refine jJ 3 rfl rfl rfl rfl ?_; intro b3
 refine qY (qW rfl) rfl rfl rfl ?_
 refine qJ ?_
 refine qQ ?_
 refine qK ?_
 refine qZ ?_
 refine qY (qV 2 ty71 rfl rfl rfl) rfl rfl rfl ?_
 refine jG (F := vB) (zY en107 rfl (fun w _ => zZG _ _  w)) rfl rfl rfl ?_; intro r6 hr6
 refine qY (qU rfl) rfl rfl rfl ?_
 refine qYJ 7 rfl (fun hg7 => ?_) (fun hg7 => ?_)
 ·
  refine qY (qV 3 ty71 rfl rfl rfl) rfl rfl rfl ?_
  refine jG (F := vB) (zY en107 rfl (fun w _ => zZG _ _  w)) rfl rfl rfl ?_; intro r9 hr9
  refine qY (qQW rfl rfl rfl rfl) rfl rfl rfl ?_
  refine qY (qW rfl) rfl rfl rfl ?_
  refine qJ ?_
  refine qQ ?_
  refine zV ?_
  refine zQ (rs := [.tmp 4]) rfl (resC (yH rfl) (resN)) (congrArg (vB) (?_ : _ = (Iv.valid (⟨a0, a1⟩ : Iv) && Iv.valid (⟨b0, b1⟩ : Iv))))
  subst_vars; simp_all
 ·
  refine yZ rfl rfl rfl ?_
  refine yZ rfl rfl rfl ?_
  refine qY (kW rfl rfl rfl rfl) rfl rfl rfl ?_
  refine qY (qW rfl) rfl rfl rfl ?_
  refine qJ ?_
  refine qQ ?_
  refine zV ?_
  refine zQ (rs := [.tmp 4]) rfl (resC (yH rfl) (resN)) (congrArg (vB) (?_ : _ = (Iv.valid (⟨a0, a1⟩ : Iv) && Iv.valid (⟨b0, b1⟩ : Iv))))
  subst_vars; simp_all
theorem rAdd (a0 a1 : Int) (b0 b1 : Int) (w : World) : Calls Tryz.prog 103 [.agg #[.int .i64 a0, .int .i64 a1], .agg #[.int .i64 b0, .int .i64 b1]].toArray w (Rets (iv (Iv.add (⟨a0, a1⟩ : Iv) (⟨b0, b1⟩ : Iv))) (w)) := by
 refine zK (n := 25) Tryz.func103 rfl rfl rfl ?_
 refine qK ?_
 refine qZ ?_
 refine jJ 2 rfl rfl rfl rfl ?_; intro b2
 refine jJ 3 rfl rfl rfl rfl ?_; intro b3
 refine yK 4 ze71 rfl rfl rfl ?_; intro b4
 refine qJ ?_
 refine qQ ?_
 refine qK ?_
 refine qK ?_
 refine qZ ?_
 refine qY (qV 2 ty71 rfl rfl rfl) rfl rfl rfl ?_
 refine jG (F := vB) (zY en147 rfl (fun w _ => zQQ _ _  w)) rfl rfl rfl ?_; intro r6 hr6
 refine qY (qUW rfl) rfl rfl rfl ?_
 refine qY (qU rfl) rfl rfl rfl ?_
 refine qYJ 8 rfl (fun hg8 => ?_) (fun hg8 => ?_)
 ·
  refine yZ rfl rfl rfl ?_
  refine yZ rfl rfl rfl ?_
  refine yZ rfl rfl rfl ?_
  refine qY (qQW rfl rfl rfl rfl) rfl rfl rfl ?_
  refine qJ ?_
  refine qQ ?_
  refine jH rfl (rfl) ?_
  refine qK ?_
  refine qZ ?_
  refine qY (zU la71 rfl rfl) rfl rfl rfl ?_
  refine qG 4 ty71 rfl rfl rfl rfl rfl rfl rfl rfl ?_
  refine qJ ?_
  refine qQ ?_
  refine zV ?_
  refine jZ ?_
  refine zQ (rs := [.cell 4 71]) rfl (resC (zJ 4 rfl rfl ty71 rfl) (resN)) (congrArg (iv) (?_ : ⟨_, _⟩ = Iv.add (⟨a0, a1⟩ : Iv) (⟨b0, b1⟩ : Iv)))
  subst_vars; first | (simp_all [Iv.add, Iv.limited]; done) | (simp_all [Iv.add, Iv.limited] <;> omega) | grind [Iv.add, Iv.limited]
 ·
  refine qY (qV 3 ty71 rfl rfl rfl) rfl rfl rfl ?_
  refine jG (F := vB) (zY en147 rfl (fun w _ => zQQ _ _  w)) rfl rfl rfl ?_; intro r10 hr10
  refine qY (qUW rfl) rfl rfl rfl ?_
  refine qY (kW rfl rfl rfl rfl) rfl rfl rfl ?_
  refine qJ ?_
  refine qQ ?_
  refine yX rfl (fun hc12 => ?_) (fun hc12 => ?_)
  ·
   refine qK ?_
   refine qZ ?_
   refine qY (zU la71 rfl rfl) rfl rfl rfl ?_
   refine qG 4 ty71 rfl rfl rfl rfl rfl rfl rfl rfl ?_
   refine qJ ?_
   refine qQ ?_
   refine zV ?_
   refine jZ ?_
   refine zQ (rs := [.cell 4 71]) rfl (resC (zJ 4 rfl rfl ty71 rfl) (resN)) (congrArg (iv) (?_ : ⟨_, _⟩ = Iv.add (⟨a0, a1⟩ : Iv) (⟨b0, b1⟩ : Iv)))
   subst_vars; first | (simp_all [Iv.add, Iv.limited]; done) | (simp_all [Iv.add, Iv.limited] <;> omega) | grind [Iv.add, Iv.limited]
  ·
   refine yU ?_
   refine qQ ?_
   refine qK ?_
   have ha := qYX (hr6.symm.trans (by simpa using hg8))
   have hb := qYX (hr10.symm.trans (by simpa using hc12))
   refine qZ ?_
   refine qY (qX qYQ rfl) rfl rfl rfl ?_
   refine qY (zW 2 ty2 rfl rfl rfl) rfl rfl rfl ?_
   refine qY (qX qYQ rfl) rfl rfl rfl ?_
   refine qY (zW 3 ty2 rfl rfl rfl) rfl rfl rfl ?_
   refine qY (jU rfl rfl (by first | exact zX ⟨by omega, by omega⟩ | rfl)) rfl rfl rfl ?_
   refine qY (qX qYG rfl) rfl rfl rfl ?_
   refine qY (zW 2 ty2 rfl rfl rfl) rfl rfl rfl ?_
   refine qY (qX qYG rfl) rfl rfl rfl ?_
   refine qY (zW 3 ty2 rfl rfl rfl) rfl rfl rfl ?_
   refine qY (jU rfl rfl (by first | exact zX ⟨by omega, by omega⟩ | rfl)) rfl rfl rfl ?_
   refine jG (F := iv) (zY en148 rfl (fun w _ => rLimited _ _  w)) rfl rfl rfl ?_; intro r24 hr24
   refine qG 4 ty71 rfl rfl rfl rfl rfl rfl rfl rfl ?_
   refine qJ ?_
   refine qQ ?_
   refine zV ?_
   refine zQ (rs := [.cell 4 71]) rfl (resC (zJ 4 rfl rfl ty71 rfl) (resN)) (congrArg (iv) (?_ : ⟨_, _⟩ = Iv.add (⟨a0, a1⟩ : Iv) (⟨b0, b1⟩ : Iv)))
   subst_vars; first | (simp_all [Iv.add, Iv.limited]; done) | (simp_all [Iv.add, Iv.limited] <;> omega) | grind [Iv.add, Iv.limited]
theorem rHull (a0 a1 : Int) (b0 b1 : Int) (w : World) : Calls Tryz.prog 180 [.agg #[.int .i64 a0, .int .i64 a1], .agg #[.int .i64 b0, .int .i64 b1]].toArray w (Rets (iv (Iv.hull (⟨a0, a1⟩ : Iv) (⟨b0, b1⟩ : Iv))) (w)) := by
 refine zK (n := 25) Tryz.func180 rfl rfl rfl ?_
 refine qK ?_
 refine qZ ?_
 refine jJ 2 rfl rfl rfl rfl ?_; intro b2
 refine jJ 3 rfl rfl rfl rfl ?_; intro b3
 refine yK 4 ze71 rfl rfl rfl ?_; intro b4
 refine qJ ?_
 refine qQ ?_
 refine qK ?_
 refine qK ?_
 refine qZ ?_
 refine qY (qV 2 ty71 rfl rfl rfl) rfl rfl rfl ?_
 refine jG (F := vB) (zY en147 rfl (fun w _ => zQQ _ _  w)) rfl rfl rfl ?_; intro r6 hr6
 refine qY (qUW rfl) rfl rfl rfl ?_
 refine qY (qU rfl) rfl rfl rfl ?_
 refine qYJ 8 rfl (fun hg8 => ?_) (fun hg8 => ?_)
 ·
  refine yZ rfl rfl rfl ?_
  refine yZ rfl rfl rfl ?_
  refine yZ rfl rfl rfl ?_
  refine qY (qQW rfl rfl rfl rfl) rfl rfl rfl ?_
  refine qJ ?_
  refine qQ ?_
  refine jH rfl (rfl) ?_
  refine qK ?_
  refine qZ ?_
  refine qY (zU la71 rfl rfl) rfl rfl rfl ?_
  refine qG 4 ty71 rfl rfl rfl rfl rfl rfl rfl rfl ?_
  refine qJ ?_
  refine qQ ?_
  refine zV ?_
  refine jZ ?_
  refine zQ (rs := [.cell 4 71]) rfl (resC (zJ 4 rfl rfl ty71 rfl) (resN)) (congrArg (iv) (?_ : ⟨_, _⟩ = Iv.hull (⟨a0, a1⟩ : Iv) (⟨b0, b1⟩ : Iv)))
  subst_vars; first | (simp_all [Iv.hull]; done) | (simp_all [Iv.hull] <;> omega) | grind [Iv.hull]
 ·
  refine qY (qV 3 ty71 rfl rfl rfl) rfl rfl rfl ?_
  refine jG (F := vB) (zY en147 rfl (fun w _ => zQQ _ _  w)) rfl rfl rfl ?_; intro r10 hr10
  refine qY (qUW rfl) rfl rfl rfl ?_
  refine qY (kW rfl rfl rfl rfl) rfl rfl rfl ?_
  refine qJ ?_
  refine qQ ?_
  refine yX rfl (fun hc12 => ?_) (fun hc12 => ?_)
  ·
   refine qK ?_
   refine qZ ?_
   refine qY (zU la71 rfl rfl) rfl rfl rfl ?_
   refine qG 4 ty71 rfl rfl rfl rfl rfl rfl rfl rfl ?_
   refine qJ ?_
   refine qQ ?_
   refine zV ?_
   refine jZ ?_
   refine zQ (rs := [.cell 4 71]) rfl (resC (zJ 4 rfl rfl ty71 rfl) (resN)) (congrArg (iv) (?_ : ⟨_, _⟩ = Iv.hull (⟨a0, a1⟩ : Iv) (⟨b0, b1⟩ : Iv)))
   subst_vars; first | (simp_all [Iv.hull]; done) | (simp_all [Iv.hull] <;> omega) | grind [Iv.hull]
  ·
   refine yU ?_
   refine qQ ?_
   refine qK ?_
   refine qZ ?_
   refine qY (qX qYQ rfl) rfl rfl rfl ?_
   refine qY (zW 2 ty2 rfl rfl rfl) rfl rfl rfl ?_
   refine qY (qX qYQ rfl) rfl rfl rfl ?_
   refine qY (zW 3 ty2 rfl rfl rfl) rfl rfl rfl ?_
   refine qY (qJZ rfl rfl) rfl rfl rfl ?_
   refine qY (qX qYG rfl) rfl rfl rfl ?_
   refine qY (zW 2 ty2 rfl rfl rfl) rfl rfl rfl ?_
   refine qY (qX qYG rfl) rfl rfl rfl ?_
   refine qY (zW 3 ty2 rfl rfl rfl) rfl rfl rfl ?_
   refine qY (qWY rfl rfl) rfl rfl rfl ?_
   refine qY (zU la71 rfl rfl) rfl rfl rfl ?_
   refine qG 4 ty71 rfl rfl rfl rfl rfl rfl rfl rfl ?_
   refine qJ ?_
   refine qQ ?_
   refine zV ?_
   refine zQ (rs := [.cell 4 71]) rfl (resC (zJ 4 rfl rfl ty71 rfl) (resN)) (congrArg (iv) (?_ : ⟨_, _⟩ = Iv.hull (⟨a0, a1⟩ : Iv) (⟨b0, b1⟩ : Iv)))
   subst_vars; first | (simp_all [Iv.hull]; done) | (simp_all [Iv.hull] <;> omega) | grind [Iv.hull]
theorem iAdd (a0 a1 : Int) (b0 b1 : Int) (w : World) : Calls Tryz.prog 142 [.agg #[.int .i64 a0, .int .i64 a1], .agg #[.int .i64 b0, .int .i64 b1]].toArray w (Rets (iv (Iv.add (⟨a0, a1⟩ : Iv) (⟨b0, b1⟩ : Iv))) (w)) := by
 refine zK (n := 21) Tryz.func142 rfl rfl rfl ?_
 refine qK ?_
 refine qZ ?_
 refine jJ 2 rfl rfl rfl rfl ?_; intro b2
 refine jJ 3 rfl rfl rfl rfl ?_; intro b3
 refine yK 4 ze71 rfl rfl rfl ?_; intro b4
 refine qJ ?_
 refine qQ ?_
 refine qK ?_
 refine qK ?_
 refine qZ ?_
 refine qY (qV 2 ty71 rfl rfl rfl) rfl rfl rfl ?_
 refine qY (qV 3 ty71 rfl rfl rfl) rfl rfl rfl ?_
 refine jG (F := vB) (zY en134 rfl (fun w _ => iValid2 _ _ _ _  w)) rfl rfl rfl ?_; intro r7 hr7
 refine qY (qUW rfl) rfl rfl rfl ?_
 refine qJ ?_
 refine qQ ?_
 refine yX rfl (fun hc8 => ?_) (fun hc8 => ?_)
 ·
  refine qK ?_
  refine qZ ?_
  refine qY (zU la71 rfl rfl) rfl rfl rfl ?_
  refine qG 4 ty71 rfl rfl rfl rfl rfl rfl rfl rfl ?_
  refine qJ ?_
  refine qQ ?_
  refine zV ?_
  refine jZ ?_
  refine zQ (rs := [.cell 4 71]) rfl (resC (zJ 4 rfl rfl ty71 rfl) (resN)) (congrArg (iv) (?_ : ⟨_, _⟩ = Iv.add (⟨a0, a1⟩ : Iv) (⟨b0, b1⟩ : Iv)))
  subst_vars; first | (simp_all [Iv.add, Iv.limited]; done) | (simp_all [Iv.add, Iv.limited] <;> omega) | grind [Iv.add, Iv.limited]
 ·
  refine yU ?_
  refine qQ ?_
  refine qK ?_
  have hv := hr7.symm.trans (by simpa using hc8)
  rw [Bool.and_eq_true] at hv
  have ha := qYX hv.1
  have hb := qYX hv.2
  refine qZ ?_
  refine qY (qX qYQ rfl) rfl rfl rfl ?_
  refine qY (zW 2 ty2 rfl rfl rfl) rfl rfl rfl ?_
  refine qY (qX qYQ rfl) rfl rfl rfl ?_
  refine qY (zW 3 ty2 rfl rfl rfl) rfl rfl rfl ?_
  refine qY (jU rfl rfl (by first | exact zX ⟨by omega, by omega⟩ | rfl)) rfl rfl rfl ?_
  refine qY (qX qYG rfl) rfl rfl rfl ?_
  refine qY (zW 2 ty2 rfl rfl rfl) rfl rfl rfl ?_
  refine qY (qX qYG rfl) rfl rfl rfl ?_
  refine qY (zW 3 ty2 rfl rfl rfl) rfl rfl rfl ?_
  refine qY (jU rfl rfl (by first | exact zX ⟨by omega, by omega⟩ | rfl)) rfl rfl rfl ?_
  refine jG (F := iv) (zY en145 rfl (fun w _ => iLimited _ _  w)) rfl rfl rfl ?_; intro r20 hr20
  refine qG 4 ty71 rfl rfl rfl rfl rfl rfl rfl rfl ?_
  refine qJ ?_
  refine qQ ?_
  refine zV ?_
  refine zQ (rs := [.cell 4 71]) rfl (resC (zJ 4 rfl rfl ty71 rfl) (resN)) (congrArg (iv) (?_ : ⟨_, _⟩ = Iv.add (⟨a0, a1⟩ : Iv) (⟨b0, b1⟩ : Iv)))
  subst_vars; first | (simp_all [Iv.add, Iv.limited]; done) | (simp_all [Iv.add, Iv.limited] <;> omega) | grind [Iv.add, Iv.limited]
theorem iHull (a0 a1 : Int) (b0 b1 : Int) (w : World) : Calls Tryz.prog 186 [.agg #[.int .i64 a0, .int .i64 a1], .agg #[.int .i64 b0, .int .i64 b1]].toArray w (Rets (iv (Iv.hull (⟨a0, a1⟩ : Iv) (⟨b0, b1⟩ : Iv))) (w)) := by
 refine zK (n := 21) Tryz.func186 rfl rfl rfl ?_
 refine qK ?_
 refine qZ ?_
 refine jJ 2 rfl rfl rfl rfl ?_; intro b2
 refine jJ 3 rfl rfl rfl rfl ?_; intro b3
 refine yK 4 ze71 rfl rfl rfl ?_; intro b4
 refine qJ ?_
 refine qQ ?_
 refine qK ?_
 refine qK ?_
 refine qZ ?_
 refine qY (qV 2 ty71 rfl rfl rfl) rfl rfl rfl ?_
 refine qY (qV 3 ty71 rfl rfl rfl) rfl rfl rfl ?_
 refine jG (F := vB) (zY en134 rfl (fun w _ => iValid2 _ _ _ _  w)) rfl rfl rfl ?_; intro r7 hr7
 refine qY (qUW rfl) rfl rfl rfl ?_
 refine qJ ?_
 refine qQ ?_
 refine yX rfl (fun hc8 => ?_) (fun hc8 => ?_)
 ·
  refine qK ?_
  refine qZ ?_
  refine qY (zU la71 rfl rfl) rfl rfl rfl ?_
  refine qG 4 ty71 rfl rfl rfl rfl rfl rfl rfl rfl ?_
  refine qJ ?_
  refine qQ ?_
  refine zV ?_
  refine jZ ?_
  refine zQ (rs := [.cell 4 71]) rfl (resC (zJ 4 rfl rfl ty71 rfl) (resN)) (congrArg (iv) (?_ : ⟨_, _⟩ = Iv.hull (⟨a0, a1⟩ : Iv) (⟨b0, b1⟩ : Iv)))
  subst_vars; first | (simp_all [Iv.hull]; done) | (simp_all [Iv.hull] <;> omega) | grind [Iv.hull]
 ·
  refine yU ?_
  refine qQ ?_
  refine qK ?_
  refine qZ ?_
  refine qY (qX qYQ rfl) rfl rfl rfl ?_
  refine qY (zW 2 ty2 rfl rfl rfl) rfl rfl rfl ?_
  refine qY (qX qYQ rfl) rfl rfl rfl ?_
  refine qY (zW 3 ty2 rfl rfl rfl) rfl rfl rfl ?_
  refine qY (qJZ rfl rfl) rfl rfl rfl ?_
  refine qY (qX qYG rfl) rfl rfl rfl ?_
  refine qY (zW 2 ty2 rfl rfl rfl) rfl rfl rfl ?_
  refine qY (qX qYG rfl) rfl rfl rfl ?_
  refine qY (zW 3 ty2 rfl rfl rfl) rfl rfl rfl ?_
  refine qY (qWY rfl rfl) rfl rfl rfl ?_
  refine qY (zU la71 rfl rfl) rfl rfl rfl ?_
  refine qG 4 ty71 rfl rfl rfl rfl rfl rfl rfl rfl ?_
  refine qJ ?_
  refine qQ ?_
  refine zV ?_
  refine zQ (rs := [.cell 4 71]) rfl (resC (zJ 4 rfl rfl ty71 rfl) (resN)) (congrArg (iv) (?_ : ⟨_, _⟩ = Iv.hull (⟨a0, a1⟩ : Iv) (⟨b0, b1⟩ : Iv)))
  subst_vars; first | (simp_all [Iv.hull]; done) | (simp_all [Iv.hull] <;> omega) | grind [Iv.hull]
theorem iWidth (a0 a1 : Int) (w : World) : Calls Tryz.prog 185 [.agg #[.int .i64 a0, .int .i64 a1]].toArray w (Rets (vI (Iv.width (⟨a0, a1⟩ : Iv))) (w)) := by
 refine zK (n := 11) Tryz.func185 rfl rfl rfl ?_
 refine qK ?_
 refine qZ ?_
 refine jJ 1 rfl rfl rfl rfl ?_; intro b1
 refine qY (qW rfl) rfl rfl rfl ?_
 refine qJ ?_
 refine qQ ?_
 refine qK ?_
 refine qK ?_
 refine qZ ?_
 refine qY (qV 1 ty71 rfl rfl rfl) rfl rfl rfl ?_
 refine jG (F := vB) (zY en107 rfl (fun w _ => zZG _ _  w)) rfl rfl rfl ?_; intro r4 hr4
 refine qY (qUW rfl) rfl rfl rfl ?_
 refine qJ ?_
 refine qQ ?_
 refine yX rfl (fun hc5 => ?_) (fun hc5 => ?_)
 ·
  refine qK ?_
  refine qZ ?_
  refine qY (qW rfl) rfl rfl rfl ?_
  refine qJ ?_
  refine qQ ?_
  refine zV ?_
  refine jZ ?_
  refine zQ (rs := [.tmp 2]) rfl (resC (yH rfl) (resN)) (congrArg (vI) (?_ : _ = Iv.width (⟨a0, a1⟩ : Iv)))
  subst_vars; first | (simp_all [Iv.width]; done) | (simp_all [Iv.width] <;> omega) | grind [Iv.width]
 ·
  refine yU ?_
  refine qQ ?_
  refine qK ?_
  have ha := qYX (hr4.symm.trans (by simpa using hc5))
  refine qZ ?_
  refine qY (qX qYG rfl) rfl rfl rfl ?_
  refine qY (zW 1 ty2 rfl rfl rfl) rfl rfl rfl ?_
  refine qY (qX qYQ rfl) rfl rfl rfl ?_
  refine qY (zW 1 ty2 rfl rfl rfl) rfl rfl rfl ?_
  refine qY (qZQ rfl rfl (by first | exact zX ⟨by omega, by omega⟩ | rfl)) rfl rfl rfl ?_
  refine qY (qW rfl) rfl rfl rfl ?_
  refine qJ ?_
  refine qQ ?_
  refine zV ?_
  refine zQ (rs := [.tmp 2]) rfl (resC (yH rfl) (resN)) (congrArg (vI) (?_ : _ = Iv.width (⟨a0, a1⟩ : Iv)))
  subst_vars; first | (simp_all [Iv.width]; done) | (simp_all [Iv.width] <;> omega) | grind [Iv.width]
theorem iHas (a0 a1 : Int) (x : Int) (w : World) : Calls Tryz.prog 192 [.agg #[.int .i64 a0, .int .i64 a1], .int .i64 x].toArray w (Rets (vB (Iv.has (⟨a0, a1⟩ : Iv) x)) (w)) := by
 refine zK (n := 19) Tryz.func192 rfl rfl rfl ?_
 refine qK ?_
 refine qZ ?_
 refine jJ 2 rfl rfl rfl rfl ?_; intro b2
 refine qY (qW rfl) rfl rfl rfl ?_
 refine qJ ?_
 refine qQ ?_
 refine qK ?_
 refine qZ ?_
 refine qY (qV 2 ty71 rfl rfl rfl) rfl rfl rfl ?_
 refine jG (F := vB) (zY en107 rfl (fun w _ => zZG _ _  w)) rfl rfl rfl ?_; intro r6 hr6
 refine qY (qU rfl) rfl rfl rfl ?_
 refine qYJ 7 rfl (fun hg7 => ?_) (fun hg7 => ?_)
 ·
  refine qY (qX qYQ rfl) rfl rfl rfl ?_
  refine qY (zW 2 ty2 rfl rfl rfl) rfl rfl rfl ?_
  refine qY (qU rfl) rfl rfl rfl ?_
  refine qY (qWJ rfl rfl) rfl rfl rfl ?_
  refine qY (qQW rfl rfl rfl rfl) rfl rfl rfl ?_
  refine qY (qU rfl) rfl rfl rfl ?_
  refine qYJ 13 rfl (fun hg13 => ?_) (fun hg13 => ?_)
  ·
   refine qY (qU rfl) rfl rfl rfl ?_
   refine qY (qX qYG rfl) rfl rfl rfl ?_
   refine qY (zW 2 ty2 rfl rfl rfl) rfl rfl rfl ?_
   refine qY (qWJ rfl rfl) rfl rfl rfl ?_
   refine qY (qQW rfl rfl rfl rfl) rfl rfl rfl ?_
   refine qY (qW rfl) rfl rfl rfl ?_
   refine qJ ?_
   refine qQ ?_
   refine zV ?_
   refine zQ (rs := [.tmp 4]) rfl (resC (yH rfl) (resN)) (congrArg (vB) (?_ : _ = Iv.has (⟨a0, a1⟩ : Iv) x))
   subst_vars; first | (simp_all [Iv.has]; done) | (simp_all [Iv.has] <;> omega) | grind [Iv.has]
  ·
   refine yZ rfl rfl rfl ?_
   refine yZ rfl rfl rfl ?_
   refine yZ rfl rfl rfl ?_
   refine yZ rfl rfl rfl ?_
   refine qY (kW rfl rfl rfl rfl) rfl rfl rfl ?_
   refine qY (qW rfl) rfl rfl rfl ?_
   refine qJ ?_
   refine qQ ?_
   refine zV ?_
   refine zQ (rs := [.tmp 4]) rfl (resC (yH rfl) (resN)) (congrArg (vB) (?_ : _ = Iv.has (⟨a0, a1⟩ : Iv) x))
   subst_vars; first | (simp_all [Iv.has]; done) | (simp_all [Iv.has] <;> omega) | grind [Iv.has]
 ·
  refine yZ rfl rfl rfl ?_
  refine yZ rfl rfl rfl ?_
  refine yZ rfl rfl rfl ?_
  refine yZ rfl rfl rfl ?_
  refine qY (kW rfl rfl rfl rfl) rfl rfl rfl ?_
  refine qY (qU rfl) rfl rfl rfl ?_
  refine yZ rfl rfl rfl ?_
  refine yZ rfl rfl rfl ?_
  refine yZ rfl rfl rfl ?_
  refine yZ rfl rfl rfl ?_
  refine qY (kW rfl rfl rfl rfl) rfl rfl rfl ?_
  refine qY (qW rfl) rfl rfl rfl ?_
  refine qJ ?_
  refine qQ ?_
  refine zV ?_
  refine zQ (rs := [.tmp 4]) rfl (resC (yH rfl) (resN)) (congrArg (vB) (?_ : _ = Iv.has (⟨a0, a1⟩ : Iv) x))
  subst_vars; first | (simp_all [Iv.has]; done) | (simp_all [Iv.has] <;> omega) | grind [Iv.has]
theorem rWithin (a0 a1 : Int) (b0 b1 : Int) (w : World) : Calls Tryz.prog 159 [.agg #[.int .i64 a0, .int .i64 a1], .agg #[.int .i64 b0, .int .i64 b1]].toArray w (Rets (vB (Iv.within (⟨a0, a1⟩ : Iv) (⟨b0, b1⟩ : Iv))) (w)) := by
 refine zK (n := 25) Tryz.func159 rfl rfl rfl ?_
 refine qK ?_
 refine qZ ?_
 refine jJ 2 rfl rfl rfl rfl ?_; intro b2
 refine jJ 3 rfl rfl rfl rfl ?_; intro b3
 refine qY (qW rfl) rfl rfl rfl ?_
 refine qJ ?_
 refine qQ ?_
 refine qK ?_
 refine qZ ?_
 refine qY (qV 2 ty71 rfl rfl rfl) rfl rfl rfl ?_
 refine jG (F := vB) (zY en147 rfl (fun w _ => zQQ _ _  w)) rfl rfl rfl ?_; intro r6 hr6
 refine qY (qU rfl) rfl rfl rfl ?_
 refine qYJ 7 rfl (fun hg7 => ?_) (fun hg7 => ?_)
 ·
  refine qY (qV 3 ty71 rfl rfl rfl) rfl rfl rfl ?_
  refine jG (F := vB) (zY en147 rfl (fun w _ => zQQ _ _  w)) rfl rfl rfl ?_; intro r9 hr9
  refine qY (qQW rfl rfl rfl rfl) rfl rfl rfl ?_
  refine qY (qU rfl) rfl rfl rfl ?_
  refine qYJ 11 rfl (fun hg11 => ?_) (fun hg11 => ?_)
  ·
   refine qY (qX qYQ rfl) rfl rfl rfl ?_
   refine qY (zW 3 ty2 rfl rfl rfl) rfl rfl rfl ?_
   refine qY (qX qYQ rfl) rfl rfl rfl ?_
   refine qY (zW 2 ty2 rfl rfl rfl) rfl rfl rfl ?_
   refine qY (qWJ rfl rfl) rfl rfl rfl ?_
   refine qY (qQW rfl rfl rfl rfl) rfl rfl rfl ?_
   refine qY (qU rfl) rfl rfl rfl ?_
   refine qYJ 18 rfl (fun hg18 => ?_) (fun hg18 => ?_)
   ·
    refine qY (qX qYG rfl) rfl rfl rfl ?_
    refine qY (zW 2 ty2 rfl rfl rfl) rfl rfl rfl ?_
    refine qY (qX qYG rfl) rfl rfl rfl ?_
    refine qY (zW 3 ty2 rfl rfl rfl) rfl rfl rfl ?_
    refine qY (qWJ rfl rfl) rfl rfl rfl ?_
    refine qY (qQW rfl rfl rfl rfl) rfl rfl rfl ?_
    refine qY (qW rfl) rfl rfl rfl ?_
    refine qJ ?_
    refine qQ ?_
    refine zV ?_
    refine zQ (rs := [.tmp 4]) rfl (resC (yH rfl) (resN)) (congrArg (vB) (?_ : _ = Iv.within (⟨a0, a1⟩ : Iv) (⟨b0, b1⟩ : Iv)))
    subst_vars; first | (simp_all [Iv.within]; done) | (simp_all [Iv.within] <;> omega) | grind [Iv.within]
   ·
    refine yZ rfl rfl rfl ?_
    refine yZ rfl rfl rfl ?_
    refine yZ rfl rfl rfl ?_
    refine yZ rfl rfl rfl ?_
    refine yZ rfl rfl rfl ?_
    refine qY (kW rfl rfl rfl rfl) rfl rfl rfl ?_
    refine qY (qW rfl) rfl rfl rfl ?_
    refine qJ ?_
    refine qQ ?_
    refine zV ?_
    refine zQ (rs := [.tmp 4]) rfl (resC (yH rfl) (resN)) (congrArg (vB) (?_ : _ = Iv.within (⟨a0, a1⟩ : Iv) (⟨b0, b1⟩ : Iv)))
    subst_vars; first | (simp_all [Iv.within]; done) | (simp_all [Iv.within] <;> omega) | grind [Iv.within]
  ·
   refine yZ rfl rfl rfl ?_
   refine yZ rfl rfl rfl ?_
   refine yZ rfl rfl rfl ?_
   refine yZ rfl rfl rfl ?_
   refine yZ rfl rfl rfl ?_
   refine qY (kW rfl rfl rfl rfl) rfl rfl rfl ?_
   refine qY (qU rfl) rfl rfl rfl ?_
   refine yZ rfl rfl rfl ?_
   refine yZ rfl rfl rfl ?_
   refine yZ rfl rfl rfl ?_
   refine yZ rfl rfl rfl ?_
   refine yZ rfl rfl rfl ?_
   refine qY (kW rfl rfl rfl rfl) rfl rfl rfl ?_
   refine qY (qW rfl) rfl rfl rfl ?_
   refine qJ ?_
   refine qQ ?_
   refine zV ?_
   refine zQ (rs := [.tmp 4]) rfl (resC (yH rfl) (resN)) (congrArg (vB) (?_ : _ = Iv.within (⟨a0, a1⟩ : Iv) (⟨b0, b1⟩ : Iv)))
   subst_vars; first | (simp_all [Iv.within]; done) | (simp_all [Iv.within] <;> omega) | grind [Iv.within]
 ·
  refine yZ rfl rfl rfl ?_
  refine yZ rfl rfl rfl ?_
  refine qY (kW rfl rfl rfl rfl) rfl rfl rfl ?_
  refine qY (qU rfl) rfl rfl rfl ?_
  refine yZ rfl rfl rfl ?_
  refine yZ rfl rfl rfl ?_
  refine yZ rfl rfl rfl ?_
  refine yZ rfl rfl rfl ?_
  refine yZ rfl rfl rfl ?_
  refine qY (kW rfl rfl rfl rfl) rfl rfl rfl ?_
  refine qY (qU rfl) rfl rfl rfl ?_
  refine yZ rfl rfl rfl ?_
  refine yZ rfl rfl rfl ?_
  refine yZ rfl rfl rfl ?_
  refine yZ rfl rfl rfl ?_
  refine yZ rfl rfl rfl ?_
  refine qY (kW rfl rfl rfl rfl) rfl rfl rfl ?_
  refine qY (qW rfl) rfl rfl rfl ?_
  refine qJ ?_
  refine qQ ?_
  refine zV ?_
  refine zQ (rs := [.tmp 4]) rfl (resC (yH rfl) (resN)) (congrArg (vB) (?_ : _ = Iv.within (⟨a0, a1⟩ : Iv) (⟨b0, b1⟩ : Iv)))
  subst_vars; first | (simp_all [Iv.within]; done) | (simp_all [Iv.within] <;> omega) | grind [Iv.within]
theorem iWithin (a0 a1 : Int) (b0 b1 : Int) (w : World) : Calls Tryz.prog 91 [.agg #[.int .i64 a0, .int .i64 a1], .agg #[.int .i64 b0, .int .i64 b1]].toArray w (Rets (vB (Iv.within (⟨a0, a1⟩ : Iv) (⟨b0, b1⟩ : Iv))) (w)) := by
 refine zK (n := 22) Tryz.func91 rfl rfl rfl ?_
 refine qK ?_
 refine qZ ?_
 refine jJ 2 rfl rfl rfl rfl ?_; intro b2
 refine jJ 3 rfl rfl rfl rfl ?_; intro b3
 refine qY (qW rfl) rfl rfl rfl ?_
 refine qJ ?_
 refine qQ ?_
 refine qK ?_
 refine qZ ?_
 refine qY (qV 2 ty71 rfl rfl rfl) rfl rfl rfl ?_
 refine qY (qV 3 ty71 rfl rfl rfl) rfl rfl rfl ?_
 refine jG (F := vB) (zY en134 rfl (fun w _ => iValid2 _ _ _ _  w)) rfl rfl rfl ?_; intro r7 hr7
 refine qY (qU rfl) rfl rfl rfl ?_
 refine qYJ 8 rfl (fun hg8 => ?_) (fun hg8 => ?_)
 ·
  refine qY (qX qYQ rfl) rfl rfl rfl ?_
  refine qY (zW 3 ty2 rfl rfl rfl) rfl rfl rfl ?_
  refine qY (qX qYQ rfl) rfl rfl rfl ?_
  refine qY (zW 2 ty2 rfl rfl rfl) rfl rfl rfl ?_
  refine qY (qWJ rfl rfl) rfl rfl rfl ?_
  refine qY (qQW rfl rfl rfl rfl) rfl rfl rfl ?_
  refine qY (qU rfl) rfl rfl rfl ?_
  refine qYJ 15 rfl (fun hg15 => ?_) (fun hg15 => ?_)
  ·
   refine qY (qX qYG rfl) rfl rfl rfl ?_
   refine qY (zW 2 ty2 rfl rfl rfl) rfl rfl rfl ?_
   refine qY (qX qYG rfl) rfl rfl rfl ?_
   refine qY (zW 3 ty2 rfl rfl rfl) rfl rfl rfl ?_
   refine qY (qWJ rfl rfl) rfl rfl rfl ?_
   refine qY (qQW rfl rfl rfl rfl) rfl rfl rfl ?_
   refine qY (qW rfl) rfl rfl rfl ?_
   refine qJ ?_
   refine qQ ?_
   refine zV ?_
   refine zQ (rs := [.tmp 4]) rfl (resC (yH rfl) (resN)) (congrArg (vB) (?_ : _ = Iv.within (⟨a0, a1⟩ : Iv) (⟨b0, b1⟩ : Iv)))
   subst_vars; first | (simp_all [Iv.within]; done) | (simp_all [Iv.within] <;> omega) | grind [Iv.within]
  ·
   refine yZ rfl rfl rfl ?_
   refine yZ rfl rfl rfl ?_
   refine yZ rfl rfl rfl ?_
   refine yZ rfl rfl rfl ?_
   refine yZ rfl rfl rfl ?_
   refine qY (kW rfl rfl rfl rfl) rfl rfl rfl ?_
   refine qY (qW rfl) rfl rfl rfl ?_
   refine qJ ?_
   refine qQ ?_
   refine zV ?_
   refine zQ (rs := [.tmp 4]) rfl (resC (yH rfl) (resN)) (congrArg (vB) (?_ : _ = Iv.within (⟨a0, a1⟩ : Iv) (⟨b0, b1⟩ : Iv)))
   subst_vars; first | (simp_all [Iv.within]; done) | (simp_all [Iv.within] <;> omega) | grind [Iv.within]
 ·
  refine yZ rfl rfl rfl ?_
  refine yZ rfl rfl rfl ?_
  refine yZ rfl rfl rfl ?_
  refine yZ rfl rfl rfl ?_
  refine yZ rfl rfl rfl ?_
  refine qY (kW rfl rfl rfl rfl) rfl rfl rfl ?_
  refine qY (qU rfl) rfl rfl rfl ?_
  refine yZ rfl rfl rfl ?_
  refine yZ rfl rfl rfl ?_
  refine yZ rfl rfl rfl ?_
  refine yZ rfl rfl rfl ?_
  refine yZ rfl rfl rfl ?_
  refine qY (kW rfl rfl rfl rfl) rfl rfl rfl ?_
  refine qY (qW rfl) rfl rfl rfl ?_
  refine qJ ?_
  refine qQ ?_
  refine zV ?_
  refine zQ (rs := [.tmp 4]) rfl (resC (yH rfl) (resN)) (congrArg (vB) (?_ : _ = Iv.within (⟨a0, a1⟩ : Iv) (⟨b0, b1⟩ : Iv)))
  subst_vars; first | (simp_all [Iv.within]; done) | (simp_all [Iv.within] <;> omega) | grind [Iv.within]
theorem rMul (a0 a1 : Int) (b0 b1 : Int) (w : World) : Calls Tryz.prog 104 [.agg #[.int .i64 a0, .int .i64 a1], .agg #[.int .i64 b0, .int .i64 b1]].toArray w (Rets (iv (Iv.mul (⟨a0, a1⟩ : Iv) (⟨b0, b1⟩ : Iv))) (w)) := by
 refine zK (n := 51) Tryz.func104 rfl rfl rfl ?_
 refine qK ?_
 refine qZ ?_
 refine jJ 2 rfl rfl rfl rfl ?_; intro b2
 refine jJ 3 rfl rfl rfl rfl ?_; intro b3
 refine yK 4 ze71 rfl rfl rfl ?_; intro b4
 refine qJ ?_
 refine qQ ?_
 refine qK ?_
 refine qK ?_
 refine qZ ?_
 refine qY (qV 2 ty71 rfl rfl rfl) rfl rfl rfl ?_
 refine jG (F := vB) (zY en147 rfl (fun w _ => zQQ _ _  w)) rfl rfl rfl ?_; intro r10 hr10
 refine qY (qUW rfl) rfl rfl rfl ?_
 refine qY (qU rfl) rfl rfl rfl ?_
 refine qYJ 12 rfl (fun hg12 => ?_) (fun hg12 => ?_)
 ·
  refine yZ rfl rfl rfl ?_
  refine yZ rfl rfl rfl ?_
  refine yZ rfl rfl rfl ?_
  refine qY (qQW rfl rfl rfl rfl) rfl rfl rfl ?_
  refine qJ ?_
  refine qQ ?_
  refine jH rfl (rfl) ?_
  refine qK ?_
  refine qZ ?_
  refine qY (zU la71 rfl rfl) rfl rfl rfl ?_
  refine qG 4 ty71 rfl rfl rfl rfl rfl rfl rfl rfl ?_
  refine qJ ?_
  refine qQ ?_
  refine zV ?_
  refine jZ ?_
  refine zQ (rs := [.cell 4 71]) rfl (resC (zJ 4 rfl rfl ty71 rfl) (resN)) (congrArg (iv) (?_ : ⟨_, _⟩ = Iv.mul (⟨a0, a1⟩ : Iv) (⟨b0, b1⟩ : Iv)))
  subst_vars; first | (simp_all [Iv.mul, Iv.limited, min4, max4]; done) | (simp_all [Iv.mul, Iv.limited, min4, max4] <;> omega) | grind [Iv.mul, Iv.limited, min4, max4]
 ·
  refine qY (qV 3 ty71 rfl rfl rfl) rfl rfl rfl ?_
  refine jG (F := vB) (zY en147 rfl (fun w _ => zQQ _ _  w)) rfl rfl rfl ?_; intro r14 hr14
  refine qY (qUW rfl) rfl rfl rfl ?_
  refine qY (kW rfl rfl rfl rfl) rfl rfl rfl ?_
  refine qJ ?_
  refine qQ ?_
  refine yX rfl (fun hc16 => ?_) (fun hc16 => ?_)
  ·
   refine qK ?_
   refine qZ ?_
   refine qY (zU la71 rfl rfl) rfl rfl rfl ?_
   refine qG 4 ty71 rfl rfl rfl rfl rfl rfl rfl rfl ?_
   refine qJ ?_
   refine qQ ?_
   refine zV ?_
   refine jZ ?_
   refine zQ (rs := [.cell 4 71]) rfl (resC (zJ 4 rfl rfl ty71 rfl) (resN)) (congrArg (iv) (?_ : ⟨_, _⟩ = Iv.mul (⟨a0, a1⟩ : Iv) (⟨b0, b1⟩ : Iv)))
   subst_vars; first | (simp_all [Iv.mul, Iv.limited, min4, max4]; done) | (simp_all [Iv.mul, Iv.limited, min4, max4] <;> omega) | grind [Iv.mul, Iv.limited, min4, max4]
  ·
   refine yU ?_
   refine qQ ?_
   refine qK ?_
   have ha := qYX (hr10.symm.trans (by simpa using hg12))
   have hb := qYX (hr14.symm.trans (by simpa using hc16))
   have m1 := qHG (a := a0) (b := b0) (by omega) (by omega)
   have m2 := qHG (a := a0) (b := b1) (by omega) (by omega)
   have m3 := qHG (a := a1) (b := b0) (by omega) (by omega)
   have m4 := qHG (a := a1) (b := b1) (by omega) (by omega)
   refine jV 23 mo (by kernel_rfl) ?_
   simp only [List.take_succ_cons, List.take_zero, List.drop_succ_cons, List.drop_zero]
   refine zH (qX qYQ rfl) rfl rfl rfl ?_
   refine zH (zW 2 ty2 rfl rfl rfl) rfl rfl rfl ?_
   refine zH (qX qYQ rfl) rfl rfl rfl ?_
   refine zH (zW 3 ty2 rfl rfl rfl) rfl rfl rfl ?_
   refine zH (kU rfl rfl (by first | exact zX ⟨by omega, by omega⟩ | rfl)) rfl rfl rfl ?_
   refine zH (qX qYQ rfl) rfl rfl rfl ?_
   refine zH (zW 2 ty2 rfl rfl rfl) rfl rfl rfl ?_
   refine zH (qX qYG rfl) rfl rfl rfl ?_
   refine zH (zW 3 ty2 rfl rfl rfl) rfl rfl rfl ?_
   refine zH (kU rfl rfl (by first | exact zX ⟨by omega, by omega⟩ | rfl)) rfl rfl rfl ?_
   refine zH (qX qYG rfl) rfl rfl rfl ?_
   refine zH (zW 2 ty2 rfl rfl rfl) rfl rfl rfl ?_
   refine zH (qX qYQ rfl) rfl rfl rfl ?_
   refine zH (zW 3 ty2 rfl rfl rfl) rfl rfl rfl ?_
   refine zH (kU rfl rfl (by first | exact zX ⟨by omega, by omega⟩ | rfl)) rfl rfl rfl ?_
   refine zH (qX qYG rfl) rfl rfl rfl ?_
   refine zH (zW 2 ty2 rfl rfl rfl) rfl rfl rfl ?_
   refine zH (qX qYG rfl) rfl rfl rfl ?_
   refine zH (zW 3 ty2 rfl rfl rfl) rfl rfl rfl ?_
   refine zH (kU rfl rfl (by first | exact zX ⟨by omega, by omega⟩ | rfl)) rfl rfl rfl ?_
   refine zH (qW rfl) rfl rfl rfl ?_
   refine zH (qW rfl) rfl rfl rfl ?_
   refine zH (qW rfl) rfl rfl rfl ?_
   refine uU ?_
   refine kJ ?_
   refine qY (qW rfl) rfl rfl rfl ?_
   refine qJ ?_
   refine qQ ?_
   refine qK ?_
   refine qZ ?_
   refine qY (qU rfl) rfl rfl rfl ?_
   refine qY (qU rfl) rfl rfl rfl ?_
   refine qY (qU rfl) rfl rfl rfl ?_
   refine qY (qU rfl) rfl rfl rfl ?_
   refine qY (opV_min4 rfl rfl rfl rfl) rfl rfl rfl ?_
   refine jG (F := vI) (zY en149 rfl (fun w _ => rFloor _ _ (by unfold In64; omega) (by omega) w)) rfl rfl rfl ?_; intro r43 hr43
   refine qY (qU rfl) rfl rfl rfl ?_
   refine qY (qU rfl) rfl rfl rfl ?_
   refine qY (qU rfl) rfl rfl rfl ?_
   refine qY (qU rfl) rfl rfl rfl ?_
   refine qY (opV_max4 rfl rfl rfl rfl) rfl rfl rfl ?_
   refine jG (F := vI) (zY en150 rfl (fun w _ => rCeil _ _ (by unfold In64; omega) (by omega) w)) rfl rfl rfl ?_; intro r49 hr49
   refine jG (F := iv) (zY en148 rfl (fun w _ => rLimited _ _  w)) rfl rfl rfl ?_; intro r50 hr50
   refine qG 4 ty71 rfl rfl rfl rfl rfl rfl rfl rfl ?_
   refine qJ ?_
   refine qQ ?_
   refine zV ?_
   refine zQ (rs := [.cell 4 71]) rfl (resC (zJ 4 rfl rfl ty71 rfl) (resN)) (congrArg (iv) (?_ : ⟨_, _⟩ = Iv.mul (⟨a0, a1⟩ : Iv) (⟨b0, b1⟩ : Iv)))
   subst_vars; first | (simp_all [Iv.mul, Iv.limited, min4, max4]; done) | (simp_all [Iv.mul, Iv.limited, min4, max4] <;> omega) | grind [Iv.mul, Iv.limited, min4, max4]
end Go.Proofs.YtmbnpjpggccefaaGreat

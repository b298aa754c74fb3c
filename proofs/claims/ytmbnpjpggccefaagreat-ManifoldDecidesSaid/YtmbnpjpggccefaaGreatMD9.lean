/- Part 9 of the texts behind the last one: rules and contracts. No condition. -/
import Derived.Test.YtmbnpjpggccefaaGreatMD8
namespace Go.Proofs.YtmbnpjpggccefaaGreat
open Go.Rx Rt Go.Sx Go.RowKit
namespace Ta
end Ta
open Ta
theorem en167 : yG Tryz.prog 167 := zZ Tryz.func167 (by kernel_rfl) (by kernel_rfl)
theorem en168 : yG Tryz.prog 168 := zZ Tryz.func168 (by kernel_rfl) (by kernel_rfl)
theorem en188 : yG Tryz.prog 188 := zZ Tryz.func188 (by kernel_rfl) (by kernel_rfl)
theorem en171 : yG Tryz.prog 171 := zZ Tryz.func171 (by kernel_rfl) (by kernel_rfl)
theorem en182 : yG Tryz.prog 182 := zZ Tryz.func182 (by kernel_rfl) (by kernel_rfl)
theorem en165 : yG Tryz.prog 165 := zZ Tryz.func165 (by kernel_rfl) (by kernel_rfl)
theorem en192 : yG Tryz.prog 192 := zZ Tryz.func192 (by kernel_rfl) (by kernel_rfl)
theorem en99 : yG Tryz.prog 99 := zZ Tryz.func99 (by kernel_rfl) (by kernel_rfl)
theorem en31 : yG Tryz.prog 31 := zZ Tryz.func31 (by kernel_rfl) (by kernel_rfl)
theorem fSD14 (a : Int) (w : World) : Calls Tryz.prog 167 [.int .i64 a, .int .i64 14].toArray w (Rets (vI (a / 16384)) w) := fShiftDown a 14 (by decide) w
theorem fSU14 (a : Int) (ha : In64 a) (w : World) : Calls Tryz.prog 168 [.int .i64 a, .int .i64 14].toArray w (Rets (vI (ceilI a 16384)) w) := fShiftUp a 14 (by decide) ha w
theorem aMod (a : Int) (w : World) : Calls Tryz.prog 188 [.int .i64 a].toArray w (Rets (vI (a % 65536)) (w)) := by
 refine zK (n := 5) Tryz.func188 rfl rfl rfl ?_
 refine qK ?_
 refine qZ ?_
 refine qY (qW rfl) rfl rfl rfl ?_
 refine qJ ?_
 refine qQ ?_
 refine qK ?_
 refine qZ ?_
 refine qY (qU rfl) rfl rfl rfl ?_
 refine qY (opV_and rfl rfl and_mask) rfl rfl rfl ?_
 refine qY (qW rfl) rfl rfl rfl ?_
 refine qJ ?_
 refine qQ ?_
 refine zV ?_
 refine zQ (rs := [.tmp 2]) rfl (resC (yH rfl) (resN)) (congrArg (vI) (?_ : _ = a % 65536))
 first | rfl | (subst_vars; rfl) | (subst_vars; simp_all)
theorem rMod (a : Int) (w : World) : Calls Tryz.prog 182 [.int .i64 a].toArray w (Rets (vI (a % 65536)) (w)) := by
 refine zK (n := 7) Tryz.func182 rfl rfl rfl ?_
 refine qK ?_
 have h0 : -65536 < a.tmod 65536 := by have := Int.lt_tmod_of_pos a (show (0 : Int) < 65536 by decide); omega
 have h1 : a.tmod 65536 < 65536 := Int.tmod_lt_of_pos a (by decide)
 refine qZ ?_
 refine qY (qW rfl) rfl rfl rfl ?_
 refine qJ ?_
 refine qQ ?_
 refine qK ?_
 refine qZ ?_
 refine qY (qU rfl) rfl rfl rfl ?_
 refine qY (opV_rem rfl rfl (by first | decide | omega) (by first | exact tmod_nonneg (by omega) (by omega) | rfl)) rfl rfl rfl ?_
 refine qY (jU rfl rfl (by first | exact zX ⟨by omega, by omega⟩ | rfl)) rfl rfl rfl ?_
 refine qY (opV_rem rfl rfl (by first | decide | omega) (by first | exact tmod_nonneg (by omega) (by omega) | rfl)) rfl rfl rfl ?_
 refine qY (qW rfl) rfl rfl rfl ?_
 refine qJ ?_
 refine qQ ?_
 refine zV ?_
 refine zQ (rs := [.tmp 2]) rfl (resC (yH rfl) (resN)) (congrArg (vI) (?_ : _ = a % 65536))
 have := Int.tdiv_mul_add_tmod a 65536; omega
theorem aCeil (a : Int) (b : Int) (ha : 0 ≤ a ∧ a ≤ 1073741824) (hb : 0 < b ∧ b ≤ 1073741824) (w : World) : Calls Tryz.prog 199 [.int .i64 a, .int .i64 b].toArray w (Rets (vI (ceilI a b)) (w)) := by
 refine zK (n := 11) Tryz.func199 rfl rfl rfl ?_
 refine qK ?_
 refine qZ ?_
 refine qY (qW rfl) rfl rfl rfl ?_
 refine qJ ?_
 refine qQ ?_
 refine qK ?_
 refine qZ ?_
 refine qY (qU rfl) rfl rfl rfl ?_
 refine qY (qU rfl) rfl rfl rfl ?_
 refine qY (jU rfl rfl (by first | exact zX ⟨by omega, by omega⟩ | rfl)) rfl rfl rfl ?_
 refine qY (qZQ rfl rfl (by first | exact zX ⟨by omega, by omega⟩ | rfl)) rfl rfl rfl ?_
 refine qY (qU rfl) rfl rfl rfl ?_
 refine qY (qWZ rfl rfl (by first | decide | omega) (ceil_quo ha hb)) rfl rfl rfl ?_
 refine qY (qW rfl) rfl rfl rfl ?_
 refine qJ ?_
 refine qQ ?_
 refine zV ?_
 refine zQ (rs := [.tmp 4]) rfl (resC (yH rfl) (resN)) (congrArg (vI) (?_ : _ = ceilI a b))
 first | rfl | (subst_vars; rfl) | (subst_vars; simp_all)
theorem aEnc (lo : Int) (hi : Int) (hh : In64 hi) (w : World) : Calls Tryz.prog 200 [.int .i64 lo, .int .i64 hi].toArray w (Rets (iv (encI lo hi)) (w)) := by
 refine zK (n := 12) Tryz.func200 rfl rfl rfl ?_
 refine qK ?_
 refine qZ ?_
 refine yK 4 ze71 rfl rfl rfl ?_; intro b4
 refine qJ ?_
 refine qQ ?_
 refine qK ?_
 refine qZ ?_
 refine qY (qU rfl) rfl rfl rfl ?_
 refine jG (F := vI) (zY en167 rfl (fun w _ => fSD14 _ w)) rfl rfl rfl ?_; intro r6 hr6
 refine qY (qWY rfl rfl) rfl rfl rfl ?_
 refine qY (qU rfl) rfl rfl rfl ?_
 refine jG (F := vI) (zY en168 rfl (fun w _ => fSU14 _ hh w)) rfl rfl rfl ?_; intro r9 hr9
 refine qY (qJZ rfl rfl) rfl rfl rfl ?_
 refine qY (zU la71 rfl rfl) rfl rfl rfl ?_
 refine qG 4 ty71 rfl rfl rfl rfl rfl rfl rfl rfl ?_
 refine qJ ?_
 refine qQ ?_
 refine zV ?_
 refine zQ (rs := [.cell 4 71]) rfl (resC (zJ 4 rfl rfl ty71 rfl) (resN)) (congrArg (iv) (?_ : ⟨_, _⟩ = encI lo hi))
 subst_vars; first | (simp_all [encI]; done) | (simp_all [encI] <;> omega) | grind [encI]
theorem rEnc (lo : Int) (hi : Int) (hl : In64 lo) (hh : In64 hi) (w : World) : Calls Tryz.prog 196 [.int .i64 lo, .int .i64 hi].toArray w (Rets (iv (encI lo hi)) (w)) := by
 refine zK (n := 12) Tryz.func196 rfl rfl rfl ?_
 refine qK ?_
 refine qZ ?_
 refine yK 4 ze71 rfl rfl rfl ?_; intro b4
 refine qJ ?_
 refine qQ ?_
 refine qK ?_
 refine qZ ?_
 refine qY (qU rfl) rfl rfl rfl ?_
 refine jG (F := vI) (zY en149 rfl (fun w _ => rFloor _ _ hl (by decide) w)) rfl rfl rfl ?_; intro r6 hr6
 refine qY (qWY rfl rfl) rfl rfl rfl ?_
 refine qY (qU rfl) rfl rfl rfl ?_
 refine jG (F := vI) (zY en150 rfl (fun w _ => rCeil _ _ hh (by decide) w)) rfl rfl rfl ?_; intro r9 hr9
 refine qY (qJZ rfl rfl) rfl rfl rfl ?_
 refine qY (zU la71 rfl rfl) rfl rfl rfl ?_
 refine qG 4 ty71 rfl rfl rfl rfl rfl rfl rfl rfl ?_
 refine qJ ?_
 refine qQ ?_
 refine zV ?_
 refine zQ (rs := [.cell 4 71]) rfl (resC (zJ 4 rfl rfl ty71 rfl) (resN)) (congrArg (iv) (?_ : ⟨_, _⟩ = encI lo hi))
 subst_vars; first | (simp_all [encI]; done) | (simp_all [encI] <;> omega) | grind [encI]
theorem aMeets (a0 a1 : Int) (c : Int) (hv : Iv.valid (⟨a0, a1⟩ : Iv) = true) (hc : 0 ≤ c ∧ c < 65536) (w : World) : Calls Tryz.prog 187 [.agg #[.int .i64 a0, .int .i64 a1], .int .i64 c].toArray w (Rets (vB (qQZ (⟨a0, a1⟩ : Iv) c)) (w)) := by
 refine zK (n := 15) Tryz.func187 rfl rfl rfl ?_
 refine qK ?_
 have hv2 := qYX hv
 refine qZ ?_
 refine jJ 2 rfl rfl rfl rfl ?_; intro b2
 refine qY (qW rfl) rfl rfl rfl ?_
 refine qJ ?_
 refine qQ ?_
 refine qK ?_
 refine jV 10 mo (by kernel_rfl) ?_
 simp only [List.take_succ_cons, List.take_zero, List.drop_succ_cons, List.drop_zero]
 refine zH (qV 2 ty71 rfl rfl rfl) rfl rfl rfl ?_
 refine zH (qX qYQ rfl) rfl rfl rfl ?_
 refine zH (zW 2 ty2 rfl rfl rfl) rfl rfl rfl ?_
 refine zH (qU rfl) rfl rfl rfl ?_
 refine zH (qX qYQ rfl) rfl rfl rfl ?_
 refine zH (zW 2 ty2 rfl rfl rfl) rfl rfl rfl ?_
 refine zH (qZQ rfl rfl (by first | exact zX ⟨by omega, by omega⟩ | rfl)) rfl rfl rfl ?_
 refine kK (F := vI) (zY en188 rfl (fun w _ => aMod _  w)) rfl rfl rfl ?_; intro r12 hr12
 have qr12 : 0 ≤ r12 ∧ r12 < 65536 := by omega
 refine zH (jU rfl rfl (by first | exact zX ⟨by omega, by omega⟩ | rfl)) rfl rfl rfl ?_
 refine kK (F := vB) (zY en192 rfl (fun w _ => iHas _ _ _  w)) rfl rfl rfl ?_; intro r14 hr14
 refine uU ?_
 refine kJ ?_
 refine qY (qW rfl) rfl rfl rfl ?_
 refine qJ ?_
 refine qQ ?_
 refine zV ?_
 refine zQ (rs := [.tmp 4]) rfl (resC (yH rfl) (resN)) (congrArg (vB) (?_ : _ = qQZ (⟨a0, a1⟩ : Iv) c))
 subst_vars; simp only [Iv.has, qQZ, hv, Bool.true_and]; rw [decide_eq_true (by omega), Bool.true_and]
theorem rMeets (a0 a1 : Int) (c : Int) (hv : Iv.valid (⟨a0, a1⟩ : Iv) = true) (hc : 0 ≤ c ∧ c < 65536) (w : World) : Calls Tryz.prog 181 [.agg #[.int .i64 a0, .int .i64 a1], .int .i64 c].toArray w (Rets (vB (qQZ (⟨a0, a1⟩ : Iv) c)) (w)) := by
 refine zK (n := 16) Tryz.func181 rfl rfl rfl ?_
 refine qK ?_
 have hv2 := qYX hv
 refine qZ ?_
 refine jJ 2 rfl rfl rfl rfl ?_; intro b2
 refine qY (qW rfl) rfl rfl rfl ?_
 refine qJ ?_
 refine qQ ?_
 refine qK ?_
 refine jV 11 mo (by kernel_rfl) ?_
 simp only [List.take_succ_cons, List.take_zero, List.drop_succ_cons, List.drop_zero]
 refine zH (qX qYQ rfl) rfl rfl rfl ?_
 refine zH (zW 2 ty2 rfl rfl rfl) rfl rfl rfl ?_
 refine zH (qU rfl) rfl rfl rfl ?_
 refine zH (qX qYQ rfl) rfl rfl rfl ?_
 refine zH (zW 2 ty2 rfl rfl rfl) rfl rfl rfl ?_
 refine zH (qZQ rfl rfl (by first | exact zX ⟨by omega, by omega⟩ | rfl)) rfl rfl rfl ?_
 refine kK (F := vI) (zY en182 rfl (fun w _ => rMod _  w)) rfl rfl rfl ?_; intro r11 hr11
 have qr11 : 0 ≤ r11 ∧ r11 < 65536 := by omega
 refine zH (jU rfl rfl (by first | exact zX ⟨by omega, by omega⟩ | rfl)) rfl rfl rfl ?_
 refine zH (qX qYG rfl) rfl rfl rfl ?_
 refine zH (zW 2 ty2 rfl rfl rfl) rfl rfl rfl ?_
 refine zH (qWJ rfl rfl) rfl rfl rfl ?_
 refine uU ?_
 refine kJ ?_
 refine qY (qW rfl) rfl rfl rfl ?_
 refine qJ ?_
 refine qQ ?_
 refine zV ?_
 refine zQ (rs := [.tmp 4]) rfl (resC (yH rfl) (resN)) (congrArg (vB) (?_ : _ = qQZ (⟨a0, a1⟩ : Iv) c))
 subst_vars; simp [qQZ]
theorem mRound (n : Int) (k : Int) (hk : 0 < k ∧ k ≤ 9223372036854775807) (w : World) : Calls Tryz.prog 15 [.int .i64 n, .int .i64 k].toArray w (Rets (vI (n % k)) (w)) := by
 refine zK (n := 15) Tryz.func15 rfl rfl rfl ?_
 refine qK ?_
 have h0 := Int.lt_tmod_of_pos n hk.1
 have h1 := Int.tmod_lt_of_pos n hk.1
 refine qZ ?_
 refine qY (qW rfl) rfl rfl rfl ?_
 refine qJ ?_
 refine qQ ?_
 refine qK ?_
 refine qZ ?_
 refine qY (qU rfl) rfl rfl rfl ?_
 refine qY (qU rfl) rfl rfl rfl ?_
 refine qY (opV_rem rfl rfl (by first | decide | omega) rfl) rfl rfl rfl ?_
 refine qY (qW rfl) rfl rfl rfl ?_
 refine qJ ?_
 refine qQ ?_
 refine qK ?_
 refine qK ?_
 refine qZ ?_
 refine qY (qU rfl) rfl rfl rfl ?_
 refine qY (qZJ rfl rfl) rfl rfl rfl ?_
 refine qJ ?_
 refine qQ ?_
 refine yX rfl (fun hc10 => ?_) (fun hc10 => ?_)
 ·
  have h2 := of_decide_eq_true hc10
  refine qZ ?_
  refine qY (qU rfl) rfl rfl rfl ?_
  refine qY (qU rfl) rfl rfl rfl ?_
  refine qY (jU rfl rfl (by first | exact zX ⟨by omega, by omega⟩ | rfl)) rfl rfl rfl ?_
  refine qY (qW rfl) rfl rfl rfl ?_
  refine qJ ?_
  refine qQ ?_
  refine qK ?_
  refine qZ ?_
  refine qY (qU rfl) rfl rfl rfl ?_
  refine qY (qW rfl) rfl rfl rfl ?_
  refine qJ ?_
  refine qQ ?_
  refine zV ?_
  refine zQ (rs := [.tmp 4]) rfl (resC (yH rfl) (resN)) (congrArg (vI) (?_ : _ = n % k))
  exact round_neg hk.1 h2
 ·
  have h2 := of_decide_eq_false hc10
  refine yU ?_
  refine qQ ?_
  refine qK ?_
  refine qZ ?_
  refine qY (qU rfl) rfl rfl rfl ?_
  refine qY (qW rfl) rfl rfl rfl ?_
  refine qJ ?_
  refine qQ ?_
  refine zV ?_
  refine zQ (rs := [.tmp 4]) rfl (resC (yH rfl) (resN)) (congrArg (vI) (?_ : _ = n % k))
  exact round_pos hk.1 h2
namespace Ta
def iw (a : Int) : Bool := decide (-9223372036854775808 ≤ a ∧ a ≤ 9223372036854775807)
def pw (a : Int) : Bool := decide (0 ≤ a ∧ a ≤ 1073741824)
theorem iw_of {a : Int} (h : iw a = true) : In64 a := by unfold iw at h; simp only [decide_eq_true_eq] at h; unfold In64; omega
theorem pw_of {a : Int} (h : pw a = true) : 0 ≤ a ∧ a ≤ 1073741824 := of_decide_eq_true h
theorem iww (y : Int) : iw (IntKind.i64.wrap y) = true := by
 refine decide_eq_true ?_
 unfold IntKind.wrap
 have hb : IntKind.i64.bits = 64 := rfl
 have hs : IntKind.i64.signed = true := rfl
 simp only [hb, hs, Bool.true_and, decide_eq_true_eq]
 split <;> omega
theorem iw_dn {x : Int} (h : 0 ≤ x ∧ x ≤ 8192) (k : Nat) : iw (dn x k) = true := by have := qWX h k; exact decide_eq_true (by omega)
theorem iw_up {x : Int} (h : 0 ≤ x ∧ x ≤ 8192) (k : Nat) : iw (up x k) = true := by have := qKK h k; exact decide_eq_true (by omega)
theorem pw_up {x : Int} (h : 0 ≤ x ∧ x ≤ 8192) (k : Nat) : pw (up x k) = true := decide_eq_true (qKK h k)
noncomputable def o_fShiftDown : List PV → Option (Bool × Ret) := fun ps => match ps with
 | [.n .i64 a, .n .i64 k] => some (decide (0 ≤ k ∧ k ≤ 62), .v (.n .i64 (a / 2 ^ Int.toNat k)))
 | _ => none
theorem ok_fShiftDown : OneOk Tryz.prog 167 o_fShiftDown := by
 intro ps r h
 unfold o_fShiftDown at h
 split at h
 ·simp only [Option.some.injEq, Prod.mk.injEq] at h
  obtain ⟨hg, rfl⟩ := h
  try simp only [Bool.and_eq_true, decide_eq_true_eq] at hg
  exact yJ (zZ Tryz.func167 (by kernel_rfl) (by kernel_rfl)) rfl rfl (fun w => fShiftDown _ _ hg w)
 ·cases h
noncomputable def L1 : OrL := (167, o_fShiftDown) :: ([] : OrL)
theorem zYU : AllP (fun x : Nat × (List PV → Option (Bool × Ret)) => OneOk Tryz.prog x.1 x.2) L1 := ⟨ok_fShiftDown, trivial⟩
noncomputable def o_fShiftUp : List PV → Option (Bool × Ret) := fun ps => match ps with
 | [.n .i64 a, .n .i64 k] => some (decide (0 ≤ k ∧ k ≤ 62) && iw a, .v (.n .i64 (ceilI a (2 ^ Int.toNat k))))
 | _ => none
theorem ok_fShiftUp : OneOk Tryz.prog 168 o_fShiftUp := by
 intro ps r h
 unfold o_fShiftUp at h
 split at h
 ·simp only [Option.some.injEq, Prod.mk.injEq] at h
  obtain ⟨hg, rfl⟩ := h
  try simp only [Bool.and_eq_true, decide_eq_true_eq] at hg
  exact yJ (zZ Tryz.func168 (by kernel_rfl) (by kernel_rfl)) rfl rfl (fun w => fShiftUp _ _ hg.1 (iw_of hg.2) w)
 ·cases h
noncomputable def L2 : OrL := (168, o_fShiftUp) :: L1
theorem zYJ : AllP (fun x : Nat × (List PV → Option (Bool × Ret)) => OneOk Tryz.prog x.1 x.2) L2 := ⟨ok_fShiftUp, zYU⟩
noncomputable def o_rFloor : List PV → Option (Bool × Ret) := fun ps => match ps with
 | [.n .i64 a, .n .i64 b] => some (decide (0 < b) && iw a, .v (.n .i64 (a / b)))
 | _ => none
theorem ok_rFloor : OneOk Tryz.prog 149 o_rFloor := by
 intro ps r h
 unfold o_rFloor at h
 split at h
 ·simp only [Option.some.injEq, Prod.mk.injEq] at h
  obtain ⟨hg, rfl⟩ := h
  try simp only [Bool.and_eq_true, decide_eq_true_eq] at hg
  exact yJ (zZ Tryz.func149 (by kernel_rfl) (by kernel_rfl)) rfl rfl (fun w => rFloor _ _ (iw_of hg.2) hg.1 w)
 ·cases h
noncomputable def L3 : OrL := (149, o_rFloor) :: L2
theorem L3_ok : AllP (fun x : Nat × (List PV → Option (Bool × Ret)) => OneOk Tryz.prog x.1 x.2) L3 := ⟨ok_rFloor, zYJ⟩
noncomputable def o_rCeil : List PV → Option (Bool × Ret) := fun ps => match ps with
 | [.n .i64 a, .n .i64 b] => some (decide (0 < b) && iw a, .v (.n .i64 (ceilI a b)))
 | _ => none
theorem ok_rCeil : OneOk Tryz.prog 150 o_rCeil := by
 intro ps r h
 unfold o_rCeil at h
 split at h
 ·simp only [Option.some.injEq, Prod.mk.injEq] at h
  obtain ⟨hg, rfl⟩ := h
  try simp only [Bool.and_eq_true, decide_eq_true_eq] at hg
  exact yJ (zZ Tryz.func150 (by kernel_rfl) (by kernel_rfl)) rfl rfl (fun w => rCeil _ _ (iw_of hg.2) hg.1 w)
 ·cases h
noncomputable def L4 : OrL := (150, o_rCeil) :: L3
theorem zYK : AllP (fun x : Nat × (List PV → Option (Bool × Ret)) => OneOk Tryz.prog x.1 x.2) L4 := ⟨ok_rCeil, L3_ok⟩
noncomputable def o_aCeil : List PV → Option (Bool × Ret) := fun ps => match ps with
 | [.n .i64 a, .n .i64 b] => some (decide (0 < b ∧ b ≤ 1073741824) && pw a, .v (.n .i64 (ceilI a b)))
 | _ => none
theorem ok_aCeil : OneOk Tryz.prog 199 o_aCeil := by
 intro ps r h
 unfold o_aCeil at h
 split at h
 ·simp only [Option.some.injEq, Prod.mk.injEq] at h
  obtain ⟨hg, rfl⟩ := h
  try simp only [Bool.and_eq_true, decide_eq_true_eq] at hg
  exact yJ (zZ Tryz.func199 (by kernel_rfl) (by kernel_rfl)) rfl rfl (fun w => aCeil _ _ (pw_of hg.2) hg.1 w)
 ·cases h
noncomputable def L5 : OrL := (199, o_aCeil) :: L4
theorem L5_ok : AllP (fun x : Nat × (List PV → Option (Bool × Ret)) => OneOk Tryz.prog x.1 x.2) L5 := ⟨ok_aCeil, zYK⟩
noncomputable def o_aEnc : List PV → Option (Bool × Ret) := fun ps => match ps with
 | [.n .i64 l, .n .i64 a] => some (iw a, .v (.a (ivC (encI l a))))
 | _ => none
theorem ok_aEnc : OneOk Tryz.prog 200 o_aEnc := by
 intro ps r h
 unfold o_aEnc at h
 split at h
 ·simp only [Option.some.injEq, Prod.mk.injEq] at h
  obtain ⟨hg, rfl⟩ := h
  try simp only [Bool.and_eq_true, decide_eq_true_eq] at hg
  exact yJ (zZ Tryz.func200 (by kernel_rfl) (by kernel_rfl)) rfl rfl (fun w => aEnc _ _ (iw_of hg) w)
 ·cases h
noncomputable def L6 : OrL := (200, o_aEnc) :: L5
theorem L6_ok : AllP (fun x : Nat × (List PV → Option (Bool × Ret)) => OneOk Tryz.prog x.1 x.2) L6 := ⟨ok_aEnc, L5_ok⟩
noncomputable def o_rEnc : List PV → Option (Bool × Ret) := fun ps => match ps with
 | [.n .i64 l, .n .i64 a] => some (iw a && iw l, .v (.a (ivC (encI l a))))
 | _ => none
theorem ok_rEnc : OneOk Tryz.prog 196 o_rEnc := by
 intro ps r h
 unfold o_rEnc at h
 split at h
 ·simp only [Option.some.injEq, Prod.mk.injEq] at h
  obtain ⟨hg, rfl⟩ := h
  try simp only [Bool.and_eq_true, decide_eq_true_eq] at hg
  exact yJ (zZ Tryz.func196 (by kernel_rfl) (by kernel_rfl)) rfl rfl (fun w => rEnc _ _ (iw_of hg.2) (iw_of hg.1) w)
 ·cases h
noncomputable def L7 : OrL := (196, o_rEnc) :: L6
theorem L7_ok : AllP (fun x : Nat × (List PV → Option (Bool × Ret)) => OneOk Tryz.prog x.1 x.2) L7 := ⟨ok_rEnc, L6_ok⟩
def wdn (x : Int) : Nat → Int
 | 0 => 1073741824
 | 1 => (IntKind.i64.wrap (x * 6746518852)) / 65536
 | k + 2 => (IntKind.i64.wrap (wdn x (k + 1) * ((IntKind.i64.wrap (x * 6746518852)) / 65536))) / 1073741824
def wup (x : Int) : Nat → Int
 | 0 => 1073741824
 | 1 => ceilI (IntKind.i64.wrap (x * 6746518853)) 65536
 | k + 2 => ceilI (IntKind.i64.wrap (wup x (k + 1) * ceilI (IntKind.i64.wrap (x * 6746518853)) 65536)) 1073741824
theorem wmul {a b : Int} (ha : 0 ≤ a ∧ a ≤ 1073741824) (hb : 0 ≤ b ∧ b ≤ 1073741824) : IntKind.i64.wrap (a * b) = a * b := mul_in (by omega) (by omega)
theorem wdn_eq {x : Int} (h : 0 ≤ x ∧ x ≤ 8192) : ∀ k, wdn x k = dn x k
 | 0 => rfl
 | 1 => by unfold wdn dn; rw [zX (by omega)]
 | k + 2 => by rw [wdn, dn, wdn_eq h (k + 1), zX (show -9223372036854775808 ≤ x * 6746518852 ∧ x * 6746518852 ≤ 9223372036854775807 by omega), wmul (qWX h (k + 1)) (show 0 ≤ x * 6746518852 / 65536 ∧ x * 6746518852 / 65536 ≤ 1073741824 by omega)]
theorem wup_eq {x : Int} (h : 0 ≤ x ∧ x ≤ 8192) : ∀ k, wup x k = up x k
 | 0 => rfl
 | 1 => by unfold wup up; rw [zX (by omega)]
 | k + 2 => by rw [wup, up, wup_eq h (k + 1), zX (show -9223372036854775808 ≤ x * 6746518853 ∧ x * 6746518853 ≤ 9223372036854775807 by omega), wmul (qKK h (k + 1)) (up1_bnd rfl h)]
set_option maxRecDepth 100000 in
theorem sp_aPow (x : Int) (h : 0 ≤ x ∧ x ≤ 8192) : SndA1 Tryz.prog 197 [.n .i64 x] (.v (.t [.a [.n .i64 1073741824, .n .i64 (dn x 1), .n .i64 (dn x 2), .n .i64 (dn x 3), .n .i64 (dn x 4), .n .i64 (dn x 5), .n .i64 (dn x 6), .n .i64 (dn x 7), .n .i64 (dn x 8), .n .i64 (dn x 9), .n .i64 (dn x 10)], .a [.n .i64 1073741824, .n .i64 (up x 1), .n .i64 (up x 2), .n .i64 (up x 3), .n .i64 (up x 4), .n .i64 (up x 5), .n .i64 (up x 6), .n .i64 (up x 7), .n .i64 (up x 8), .n .i64 (up x 9), .n .i64 (up x 10)]])) := yV (N := 60) (ps := [.n .i64 x]) tabOk mixed (OrL.ok (l := L7) L7_ok) ((by kernel_rfl : _ = bif iw (IntKind.i64.wrap (x * 6746518853)) then (bif iw (IntKind.i64.wrap (wup x 1 * wup x 1)) then (bif iw (IntKind.i64.wrap (wup x 2 * wup x 1)) then (bif iw (IntKind.i64.wrap (wup x 3 * wup x 1)) then (bif iw (IntKind.i64.wrap (wup x 4 * wup x 1)) then (bif iw (IntKind.i64.wrap (wup x 5 * wup x 1)) then (bif iw (IntKind.i64.wrap (wup x 6 * wup x 1)) then (bif iw (IntKind.i64.wrap (wup x 7 * wup x 1)) then (bif iw (IntKind.i64.wrap (wup x 8 * wup x 1)) then (bif iw (IntKind.i64.wrap (wup x 9 * wup x 1)) then some (.v (.t [.a [.n .i64 1073741824, .n .i64 (wdn x 1), .n .i64 (wdn x 2), .n .i64 (wdn x 3), .n .i64 (wdn x 4), .n .i64 (wdn x 5), .n .i64 (wdn x 6), .n .i64 (wdn x 7), .n .i64 (wdn x 8), .n .i64 (wdn x 9), .n .i64 (wdn x 10)], .a [.n .i64 1073741824, .n .i64 (wup x 1), .n .i64 (wup x 2), .n .i64 (wup x 3), .n .i64 (wup x 4), .n .i64 (wup x 5), .n .i64 (wup x 6), .n .i64 (wup x 7), .n .i64 (wup x 8), .n .i64 (wup x 9), .n .i64 (wup x 10)]]), [])
 else none)
 else none)
 else none)
 else none)
 else none)
 else none)
 else none)
 else none)
 else none)
 else none).trans (by
 simp only [iww, cond_true, wdn_eq h, wup_eq h]))
set_option maxRecDepth 100000 in
theorem sp_rPow (x : Int) (h : 0 ≤ x ∧ x ≤ 8192) : SndA1 Tryz.prog 195 [.n .i64 x] (.v (.t [.a [.n .i64 0, .n .i64 (dn x 1), .n .i64 (dn x 2), .n .i64 (dn x 3), .n .i64 (dn x 4), .n .i64 (dn x 5), .n .i64 (dn x 6), .n .i64 (dn x 7), .n .i64 (dn x 8), .n .i64 (dn x 9), .n .i64 (dn x 10)], .a [.n .i64 0, .n .i64 (up x 1), .n .i64 (up x 2), .n .i64 (up x 3), .n .i64 (up x 4), .n .i64 (up x 5), .n .i64 (up x 6), .n .i64 (up x 7), .n .i64 (up x 8), .n .i64 (up x 9), .n .i64 (up x 10)]])) := yV (N := 60) (ps := [.n .i64 x]) tabOk mixed (OrL.ok (l := L7) L7_ok) ((by kernel_rfl : _ = bif iw (IntKind.i64.wrap (x * 6746518852)) then (bif iw (IntKind.i64.wrap (x * 6746518853)) then (bif iw (IntKind.i64.wrap (wdn x 1 * wdn x 1)) then (bif iw (IntKind.i64.wrap (wup x 1 * wup x 1)) then (bif iw (IntKind.i64.wrap (wdn x 2 * wdn x 1)) then (bif iw (IntKind.i64.wrap (wup x 2 * wup x 1)) then (bif iw (IntKind.i64.wrap (wdn x 3 * wdn x 1)) then (bif iw (IntKind.i64.wrap (wup x 3 * wup x 1)) then (bif iw (IntKind.i64.wrap (wdn x 4 * wdn x 1)) then (bif iw (IntKind.i64.wrap (wup x 4 * wup x 1)) then (bif iw (IntKind.i64.wrap (wdn x 5 * wdn x 1)) then (bif iw (IntKind.i64.wrap (wup x 5 * wup x 1)) then (bif iw (IntKind.i64.wrap (wdn x 6 * wdn x 1)) then (bif iw (IntKind.i64.wrap (wup x 6 * wup x 1)) then (bif iw (IntKind.i64.wrap (wdn x 7 * wdn x 1)) then (bif iw (IntKind.i64.wrap (wup x 7 * wup x 1)) then (bif iw (IntKind.i64.wrap (wdn x 8 * wdn x 1)) then (bif iw (IntKind.i64.wrap (wup x 8 * wup x 1)) then (bif iw (IntKind.i64.wrap (wdn x 9 * wdn x 1)) then (bif iw (IntKind.i64.wrap (wup x 9 * wup x 1)) then some (.v (.t [.a [.n .i64 0, .n .i64 (wdn x 1), .n .i64 (wdn x 2), .n .i64 (wdn x 3), .n .i64 (wdn x 4), .n .i64 (wdn x 5), .n .i64 (wdn x 6), .n .i64 (wdn x 7), .n .i64 (wdn x 8), .n .i64 (wdn x 9), .n .i64 (wdn x 10)], .a [.n .i64 0, .n .i64 (wup x 1), .n .i64 (wup x 2), .n .i64 (wup x 3), .n .i64 (wup x 4), .n .i64 (wup x 5), .n .i64 (wup x 6), .n .i64 (wup x 7), .n .i64 (wup x 8), .n .i64 (wup x 9), .n .i64 (wup x 10)]]), [])
 else none)
 else none)
 else none)
 else none)
 else none)
 else none)
 else none)
 else none)
 else none)
 else none)
 else none)
 else none)
 else none)
 else none)
 else none)
 else none)
 else none)
 else none)
 else none)
 else none).trans (by
 simp only [iww, cond_true, wdn_eq h, wup_eq h]))
noncomputable def o_aPow : List PV → Option (Bool × Ret) := fun ps => match ps with
 | [.n .i64 x] => some (decide (0 ≤ x ∧ x ≤ 8192), .v (.t [.a [.n .i64 1073741824, .n .i64 (dn x 1), .n .i64 (dn x 2), .n .i64 (dn x 3), .n .i64 (dn x 4), .n .i64 (dn x 5), .n .i64 (dn x 6), .n .i64 (dn x 7), .n .i64 (dn x 8), .n .i64 (dn x 9), .n .i64 (dn x 10)], .a [.n .i64 1073741824, .n .i64 (up x 1), .n .i64 (up x 2), .n .i64 (up x 3), .n .i64 (up x 4), .n .i64 (up x 5), .n .i64 (up x 6), .n .i64 (up x 7), .n .i64 (up x 8), .n .i64 (up x 9), .n .i64 (up x 10)]]))
 | _ => none
theorem ok_aPow : OneOk Tryz.prog 197 o_aPow := by
 intro ps r h
 unfold o_aPow at h
 split at h
 ·simp only [Option.some.injEq, Prod.mk.injEq] at h
  obtain ⟨hg, rfl⟩ := h
  exact sp_aPow _ (of_decide_eq_true hg)
 ·cases h
noncomputable def L8 : OrL := (197, o_aPow) :: L7
theorem L8_ok : AllP (fun x : Nat × (List PV → Option (Bool × Ret)) => OneOk Tryz.prog x.1 x.2) L8 := ⟨ok_aPow, L7_ok⟩
noncomputable def o_rPow : List PV → Option (Bool × Ret) := fun ps => match ps with
 | [.n .i64 x] => some (decide (0 ≤ x ∧ x ≤ 8192), .v (.t [.a [.n .i64 0, .n .i64 (dn x 1), .n .i64 (dn x 2), .n .i64 (dn x 3), .n .i64 (dn x 4), .n .i64 (dn x 5), .n .i64 (dn x 6), .n .i64 (dn x 7), .n .i64 (dn x 8), .n .i64 (dn x 9), .n .i64 (dn x 10)], .a [.n .i64 0, .n .i64 (up x 1), .n .i64 (up x 2), .n .i64 (up x 3), .n .i64 (up x 4), .n .i64 (up x 5), .n .i64 (up x 6), .n .i64 (up x 7), .n .i64 (up x 8), .n .i64 (up x 9), .n .i64 (up x 10)]]))
 | _ => none
theorem ok_rPow : OneOk Tryz.prog 195 o_rPow := by
 intro ps r h
 unfold o_rPow at h
 split at h
 ·simp only [Option.some.injEq, Prod.mk.injEq] at h
  obtain ⟨hg, rfl⟩ := h
  exact sp_rPow _ (of_decide_eq_true hg)
 ·cases h
noncomputable def L9 : OrL := (195, o_rPow) :: L8
theorem L9_ok : AllP (fun x : Nat × (List PV → Option (Bool × Ret)) => OneOk Tryz.prog x.1 x.2) L9 := ⟨ok_rPow, L8_ok⟩
theorem tdnn {a b : Int} (h : 0 ≤ a) : a.tdiv b = a / b := Int.tdiv_eq_ediv_of_nonneg h
def aSineL (x : Int) : Int := (IntKind.i64.wrap ((IntKind.i64.wrap ((IntKind.i64.wrap ((IntKind.i64.wrap (0 + (IntKind.i64.wrap (1 * (dn x 1))))) + (IntKind.i64.wrap ((-1) * ceilI (up x 3) 6)))) + (IntKind.i64.wrap (1 * (IntKind.i64.wrap ((dn x 5).tdiv 120)))))) + (IntKind.i64.wrap ((-1) * ceilI (up x 7) 5040))))
theorem aSineL_eq {x : Int} (h : 0 ≤ x ∧ x ≤ 8192) : aSineL x = sinL x := by
 have d1 := qWX h 1
 have d5 := qWX h 5
 have u3 := qKK h 3
 have u7 := qKK h 7
 have c3 := kQ (r := ceilI (up x 3) 6) rfl u3 (by decide)
 have c7 := kQ (r := ceilI (up x 7) 5040) rfl u7 (by decide)
 unfold aSineL sinL
 simp only [tdnn d5.1]
 have w0 : IntKind.i64.wrap (1 * (dn x 1)) = (1 * (dn x 1)) := zX (by omega)
 have w1 : IntKind.i64.wrap (0 + (1 * (dn x 1))) = (0 + (1 * (dn x 1))) := zX (by omega)
 have w2 : IntKind.i64.wrap ((-1) * ceilI (up x 3) 6) = ((-1) * ceilI (up x 3) 6) := zX (by omega)
 have w3 : IntKind.i64.wrap ((0 + (1 * (dn x 1))) + ((-1) * ceilI (up x 3) 6)) = ((0 + (1 * (dn x 1))) + ((-1) * ceilI (up x 3) 6)) := zX (by omega)
 have w4 : IntKind.i64.wrap (((dn x 5) / 120)) = (((dn x 5) / 120)) := zX (by omega)
 have w5 : IntKind.i64.wrap (1 * (((dn x 5) / 120))) = (1 * (((dn x 5) / 120))) := zX (by omega)
 have w6 : IntKind.i64.wrap (((0 + (1 * (dn x 1))) + ((-1) * ceilI (up x 3) 6)) + (1 * (((dn x 5) / 120)))) = (((0 + (1 * (dn x 1))) + ((-1) * ceilI (up x 3) 6)) + (1 * (((dn x 5) / 120)))) := zX (by omega)
 have w7 : IntKind.i64.wrap ((-1) * ceilI (up x 7) 5040) = ((-1) * ceilI (up x 7) 5040) := zX (by omega)
 have w8 : IntKind.i64.wrap ((((0 + (1 * (dn x 1))) + ((-1) * ceilI (up x 3) 6)) + (1 * (((dn x 5) / 120)))) + ((-1) * ceilI (up x 7) 5040)) = ((((0 + (1 * (dn x 1))) + ((-1) * ceilI (up x 3) 6)) + (1 * (((dn x 5) / 120)))) + ((-1) * ceilI (up x 7) 5040)) := zX (by omega)
 simp only [w0, w1, w2, w3, w4, w5, w6, w7, w8]
 try omega
def aSineU (x : Int) : Int := (IntKind.i64.wrap ((IntKind.i64.wrap ((IntKind.i64.wrap ((IntKind.i64.wrap ((IntKind.i64.wrap (0 + (IntKind.i64.wrap (1 * (up x 1))))) + (IntKind.i64.wrap ((-1) * (IntKind.i64.wrap ((dn x 3).tdiv 6)))))) + (IntKind.i64.wrap (1 * ceilI (up x 5) 120)))) + (IntKind.i64.wrap ((-1) * (IntKind.i64.wrap ((dn x 7).tdiv 5040)))))) + (IntKind.i64.wrap (1 * ceilI (up x 9) 362880))))
theorem aSineU_eq {x : Int} (h : 0 ≤ x ∧ x ≤ 8192) : aSineU x = sinU x := by
 have d3 := qWX h 3
 have d7 := qWX h 7
 have u1 := qKK h 1
 have u5 := qKK h 5
 have u9 := qKK h 9
 have c5 := kQ (r := ceilI (up x 5) 120) rfl u5 (by decide)
 have c9 := kQ (r := ceilI (up x 9) 362880) rfl u9 (by decide)
 unfold aSineU sinU
 simp only [tdnn d3.1, tdnn d7.1]
 have w0 : IntKind.i64.wrap (1 * (up x 1)) = (1 * (up x 1)) := zX (by omega)
 have w1 : IntKind.i64.wrap (0 + (1 * (up x 1))) = (0 + (1 * (up x 1))) := zX (by omega)
 have w2 : IntKind.i64.wrap (((dn x 3) / 6)) = (((dn x 3) / 6)) := zX (by omega)
 have w3 : IntKind.i64.wrap ((-1) * (((dn x 3) / 6))) = ((-1) * (((dn x 3) / 6))) := zX (by omega)
 have w4 : IntKind.i64.wrap ((0 + (1 * (up x 1))) + ((-1) * (((dn x 3) / 6)))) = ((0 + (1 * (up x 1))) + ((-1) * (((dn x 3) / 6)))) := zX (by omega)
 have w5 : IntKind.i64.wrap (1 * ceilI (up x 5) 120) = (1 * ceilI (up x 5) 120) := zX (by omega)
 have w6 : IntKind.i64.wrap (((0 + (1 * (up x 1))) + ((-1) * (((dn x 3) / 6)))) + (1 * ceilI (up x 5) 120)) = (((0 + (1 * (up x 1))) + ((-1) * (((dn x 3) / 6)))) + (1 * ceilI (up x 5) 120)) := zX (by omega)
 have w7 : IntKind.i64.wrap (((dn x 7) / 5040)) = (((dn x 7) / 5040)) := zX (by omega)
 have w8 : IntKind.i64.wrap ((-1) * (((dn x 7) / 5040))) = ((-1) * (((dn x 7) / 5040))) := zX (by omega)
 have w9 : IntKind.i64.wrap ((((0 + (1 * (up x 1))) + ((-1) * (((dn x 3) / 6)))) + (1 * ceilI (up x 5) 120)) + ((-1) * (((dn x 7) / 5040)))) = ((((0 + (1 * (up x 1))) + ((-1) * (((dn x 3) / 6)))) + (1 * ceilI (up x 5) 120)) + ((-1) * (((dn x 7) / 5040)))) := zX (by omega)
 have w10 : IntKind.i64.wrap (1 * ceilI (up x 9) 362880) = (1 * ceilI (up x 9) 362880) := zX (by omega)
 have w11 : IntKind.i64.wrap (((((0 + (1 * (up x 1))) + ((-1) * (((dn x 3) / 6)))) + (1 * ceilI (up x 5) 120)) + ((-1) * (((dn x 7) / 5040)))) + (1 * ceilI (up x 9) 362880)) = (((((0 + (1 * (up x 1))) + ((-1) * (((dn x 3) / 6)))) + (1 * ceilI (up x 5) 120)) + ((-1) * (((dn x 7) / 5040)))) + (1 * ceilI (up x 9) 362880)) := zX (by omega)
 simp only [w0, w1, w2, w3, w4, w5, w6, w7, w8, w9, w10, w11]
 try omega
end Ta
set_option maxRecDepth 100000 in
theorem aSine (x : Int) (h : 0 ≤ x ∧ x ≤ 8192) (w : World) : Calls Tryz.prog 193 [.int .i64 x].toArray w (Rets (iv (sineI x)) (w)) :=
 uY (x := .a (ivC (sineI x))) (yV (N := 60) (ps := [.n .i64 x]) tabOk mixed (OrL.ok (l := L9) L9_ok) ((by kernel_rfl : _ = bif decide (0 ≤ x ∧ x ≤ 8192) then (bif pw (up x 3) then (bif pw (up x 7) then (bif pw (up x 5) then (bif pw (up x 9) then (bif iw (aSineU x) then some (.v (.a [.n .i64 (encI (aSineL x) (aSineU x)).lo, .n .i64 (encI (aSineL x) (aSineU x)).hi]), [])
 else none)
 else none)
 else none)
 else none)
 else none)
 else none).trans (by
 have iL : iw (aSineL x) = true := iww _
 have iU : iw (aSineU x) = true := iww _
 rw [aSineL_eq h] at iL ⊢
 rw [aSineU_eq h] at iU ⊢
 simp only [decide_eq_true h, pw_up h, iw_up h, iw_dn h, iL, iU, cond_true, Bool.and_self]
 rfl))) rfl rfl w
namespace Ta
def aCosineL (x : Int) : Int := (IntKind.i64.wrap ((IntKind.i64.wrap ((IntKind.i64.wrap ((IntKind.i64.wrap ((IntKind.i64.wrap (1073741824 + (IntKind.i64.wrap ((-1) * ceilI (up x 2) 2)))) + (IntKind.i64.wrap (1 * (IntKind.i64.wrap ((dn x 4).tdiv 24)))))) + (IntKind.i64.wrap ((-1) * ceilI (up x 6) 720)))) + (IntKind.i64.wrap (1 * (IntKind.i64.wrap ((dn x 8).tdiv 40320)))))) + (IntKind.i64.wrap ((-1) * ceilI (up x 10) 3628800))))
theorem aCosineL_eq {x : Int} (h : 0 ≤ x ∧ x ≤ 8192) : aCosineL x = cosL x := by
 have d4 := qWX h 4
 have d8 := qWX h 8
 have u2 := qKK h 2
 have u6 := qKK h 6
 have u10 := qKK h 10
 have c10 := kQ (r := ceilI (up x 10) 3628800) rfl u10 (by decide)
 have c2 := kQ (r := ceilI (up x 2) 2) rfl u2 (by decide)
 have c6 := kQ (r := ceilI (up x 6) 720) rfl u6 (by decide)
 unfold aCosineL cosL
 simp only [tdnn d4.1, tdnn d8.1]
 have w0 : IntKind.i64.wrap ((-1) * ceilI (up x 2) 2) = ((-1) * ceilI (up x 2) 2) := zX (by omega)
 have w1 : IntKind.i64.wrap (1073741824 + ((-1) * ceilI (up x 2) 2)) = (1073741824 + ((-1) * ceilI (up x 2) 2)) := zX (by omega)
 have w2 : IntKind.i64.wrap (((dn x 4) / 24)) = (((dn x 4) / 24)) := zX (by omega)
 have w3 : IntKind.i64.wrap (1 * (((dn x 4) / 24))) = (1 * (((dn x 4) / 24))) := zX (by omega)
 have w4 : IntKind.i64.wrap ((1073741824 + ((-1) * ceilI (up x 2) 2)) + (1 * (((dn x 4) / 24)))) = ((1073741824 + ((-1) * ceilI (up x 2) 2)) + (1 * (((dn x 4) / 24)))) := zX (by omega)
 have w5 : IntKind.i64.wrap ((-1) * ceilI (up x 6) 720) = ((-1) * ceilI (up x 6) 720) := zX (by omega)
 have w6 : IntKind.i64.wrap (((1073741824 + ((-1) * ceilI (up x 2) 2)) + (1 * (((dn x 4) / 24)))) + ((-1) * ceilI (up x 6) 720)) = (((1073741824 + ((-1) * ceilI (up x 2) 2)) + (1 * (((dn x 4) / 24)))) + ((-1) * ceilI (up x 6) 720)) := zX (by omega)
 have w7 : IntKind.i64.wrap (((dn x 8) / 40320)) = (((dn x 8) / 40320)) := zX (by omega)
 have w8 : IntKind.i64.wrap (1 * (((dn x 8) / 40320))) = (1 * (((dn x 8) / 40320))) := zX (by omega)
 have w9 : IntKind.i64.wrap ((((1073741824 + ((-1) * ceilI (up x 2) 2)) + (1 * (((dn x 4) / 24)))) + ((-1) * ceilI (up x 6) 720)) + (1 * (((dn x 8) / 40320)))) = ((((1073741824 + ((-1) * ceilI (up x 2) 2)) + (1 * (((dn x 4) / 24)))) + ((-1) * ceilI (up x 6) 720)) + (1 * (((dn x 8) / 40320)))) := zX (by omega)
 have w10 : IntKind.i64.wrap ((-1) * ceilI (up x 10) 3628800) = ((-1) * ceilI (up x 10) 3628800) := zX (by omega)
 have w11 : IntKind.i64.wrap (((((1073741824 + ((-1) * ceilI (up x 2) 2)) + (1 * (((dn x 4) / 24)))) + ((-1) * ceilI (up x 6) 720)) + (1 * (((dn x 8) / 40320)))) + ((-1) * ceilI (up x 10) 3628800)) = (((((1073741824 + ((-1) * ceilI (up x 2) 2)) + (1 * (((dn x 4) / 24)))) + ((-1) * ceilI (up x 6) 720)) + (1 * (((dn x 8) / 40320)))) + ((-1) * ceilI (up x 10) 3628800)) := zX (by omega)
 simp only [w0, w1, w2, w3, w4, w5, w6, w7, w8, w9, w10, w11]
 try omega
def aCosineU (x : Int) : Int := (IntKind.i64.wrap ((IntKind.i64.wrap ((IntKind.i64.wrap ((IntKind.i64.wrap (1073741824 + (IntKind.i64.wrap ((-1) * (IntKind.i64.wrap ((dn x 2).tdiv 2)))))) + (IntKind.i64.wrap (1 * ceilI (up x 4) 24)))) + (IntKind.i64.wrap ((-1) * (IntKind.i64.wrap ((dn x 6).tdiv 720)))))) + (IntKind.i64.wrap (1 * ceilI (up x 8) 40320))))
theorem aCosineU_eq {x : Int} (h : 0 ≤ x ∧ x ≤ 8192) : aCosineU x = cosU x := by
 have d2 := qWX h 2
 have d6 := qWX h 6
 have u4 := qKK h 4
 have u8 := qKK h 8
 have c4 := kQ (r := ceilI (up x 4) 24) rfl u4 (by decide)
 have c8 := kQ (r := ceilI (up x 8) 40320) rfl u8 (by decide)
 unfold aCosineU cosU
 simp only [tdnn d2.1, tdnn d6.1]
 have w0 : IntKind.i64.wrap (((dn x 2) / 2)) = (((dn x 2) / 2)) := zX (by omega)
 have w1 : IntKind.i64.wrap ((-1) * (((dn x 2) / 2))) = ((-1) * (((dn x 2) / 2))) := zX (by omega)
 have w2 : IntKind.i64.wrap (1073741824 + ((-1) * (((dn x 2) / 2)))) = (1073741824 + ((-1) * (((dn x 2) / 2)))) := zX (by omega)
 have w3 : IntKind.i64.wrap (1 * ceilI (up x 4) 24) = (1 * ceilI (up x 4) 24) := zX (by omega)
 have w4 : IntKind.i64.wrap ((1073741824 + ((-1) * (((dn x 2) / 2)))) + (1 * ceilI (up x 4) 24)) = ((1073741824 + ((-1) * (((dn x 2) / 2)))) + (1 * ceilI (up x 4) 24)) := zX (by omega)
 have w5 : IntKind.i64.wrap (((dn x 6) / 720)) = (((dn x 6) / 720)) := zX (by omega)
 have w6 : IntKind.i64.wrap ((-1) * (((dn x 6) / 720))) = ((-1) * (((dn x 6) / 720))) := zX (by omega)
 have w7 : IntKind.i64.wrap (((1073741824 + ((-1) * (((dn x 2) / 2)))) + (1 * ceilI (up x 4) 24)) + ((-1) * (((dn x 6) / 720)))) = (((1073741824 + ((-1) * (((dn x 2) / 2)))) + (1 * ceilI (up x 4) 24)) + ((-1) * (((dn x 6) / 720)))) := zX (by omega)
 have w8 : IntKind.i64.wrap (1 * ceilI (up x 8) 40320) = (1 * ceilI (up x 8) 40320) := zX (by omega)
 have w9 : IntKind.i64.wrap ((((1073741824 + ((-1) * (((dn x 2) / 2)))) + (1 * ceilI (up x 4) 24)) + ((-1) * (((dn x 6) / 720)))) + (1 * ceilI (up x 8) 40320)) = ((((1073741824 + ((-1) * (((dn x 2) / 2)))) + (1 * ceilI (up x 4) 24)) + ((-1) * (((dn x 6) / 720)))) + (1 * ceilI (up x 8) 40320)) := zX (by omega)
 simp only [w0, w1, w2, w3, w4, w5, w6, w7, w8, w9]
 try omega
end Ta
set_option maxRecDepth 100000 in
theorem aCosine (x : Int) (h : 0 ≤ x ∧ x ≤ 8192) (w : World) : Calls Tryz.prog 194 [.int .i64 x].toArray w (Rets (iv (qGQ x)) (w)) :=
 uY (x := .a (ivC (qGQ x))) (yV (N := 60) (ps := [.n .i64 x]) tabOk mixed (OrL.ok (l := L9) L9_ok) ((by kernel_rfl : _ = bif decide (0 ≤ x ∧ x ≤ 8192) then (bif pw (up x 2) then (bif pw (up x 6) then (bif pw (up x 10) then (bif pw (up x 4) then (bif pw (up x 8) then (bif iw (aCosineU x) then some (.v (.a [.n .i64 (encI (aCosineL x) (aCosineU x)).lo, .n .i64 (encI (aCosineL x) (aCosineU x)).hi]), [])
 else none)
 else none)
 else none)
 else none)
 else none)
 else none)
 else none).trans (by
 have iL : iw (aCosineL x) = true := iww _
 have iU : iw (aCosineU x) = true := iww _
 rw [aCosineL_eq h] at iL ⊢
 rw [aCosineU_eq h] at iU ⊢
 simp only [decide_eq_true h, pw_up h, iw_up h, iw_dn h, iL, iU, cond_true, Bool.and_self]
 rfl))) rfl rfl w
namespace Ta
def rSineL (x : Int) : Int := (IntKind.i64.wrap ((IntKind.i64.wrap ((IntKind.i64.wrap ((dn x 1) - ceilI (up x 3) 6)) + (dn x 5) / 120)) - ceilI (up x 7) 5040))
theorem rSineL_eq {x : Int} (h : 0 ≤ x ∧ x ≤ 8192) : rSineL x = sinL x := by
 have d1 := qWX h 1
 have d5 := qWX h 5
 have u3 := qKK h 3
 have u7 := qKK h 7
 have c3 := kQ (r := ceilI (up x 3) 6) rfl u3 (by decide)
 have c7 := kQ (r := ceilI (up x 7) 5040) rfl u7 (by decide)
 unfold rSineL sinL
 have w0 : IntKind.i64.wrap ((dn x 1) - ceilI (up x 3) 6) = ((dn x 1) - ceilI (up x 3) 6) := zX (by omega)
 have w1 : IntKind.i64.wrap (((dn x 1) - ceilI (up x 3) 6) + (dn x 5) / 120) = (((dn x 1) - ceilI (up x 3) 6) + (dn x 5) / 120) := zX (by omega)
 have w2 : IntKind.i64.wrap ((((dn x 1) - ceilI (up x 3) 6) + (dn x 5) / 120) - ceilI (up x 7) 5040) = ((((dn x 1) - ceilI (up x 3) 6) + (dn x 5) / 120) - ceilI (up x 7) 5040) := zX (by omega)
 simp only [w0, w1, w2]
 try omega
def rSineU (x : Int) : Int := (IntKind.i64.wrap ((IntKind.i64.wrap ((IntKind.i64.wrap ((IntKind.i64.wrap ((up x 1) - (dn x 3) / 6)) + ceilI (up x 5) 120)) - (dn x 7) / 5040)) + ceilI (up x 9) 362880))
theorem rSineU_eq {x : Int} (h : 0 ≤ x ∧ x ≤ 8192) : rSineU x = sinU x := by
 have d3 := qWX h 3
 have d7 := qWX h 7
 have u1 := qKK h 1
 have u5 := qKK h 5
 have u9 := qKK h 9
 have c5 := kQ (r := ceilI (up x 5) 120) rfl u5 (by decide)
 have c9 := kQ (r := ceilI (up x 9) 362880) rfl u9 (by decide)
 unfold rSineU sinU
 have w0 : IntKind.i64.wrap ((up x 1) - (dn x 3) / 6) = ((up x 1) - (dn x 3) / 6) := zX (by omega)
 have w1 : IntKind.i64.wrap (((up x 1) - (dn x 3) / 6) + ceilI (up x 5) 120) = (((up x 1) - (dn x 3) / 6) + ceilI (up x 5) 120) := zX (by omega)
 have w2 : IntKind.i64.wrap ((((up x 1) - (dn x 3) / 6) + ceilI (up x 5) 120) - (dn x 7) / 5040) = ((((up x 1) - (dn x 3) / 6) + ceilI (up x 5) 120) - (dn x 7) / 5040) := zX (by omega)
 have w3 : IntKind.i64.wrap (((((up x 1) - (dn x 3) / 6) + ceilI (up x 5) 120) - (dn x 7) / 5040) + ceilI (up x 9) 362880) = (((((up x 1) - (dn x 3) / 6) + ceilI (up x 5) 120) - (dn x 7) / 5040) + ceilI (up x 9) 362880) := zX (by omega)
 simp only [w0, w1, w2, w3]
 try omega
end Ta
set_option maxRecDepth 100000 in
theorem rSine (x : Int) (h : 0 ≤ x ∧ x ≤ 8192) (w : World) : Calls Tryz.prog 190 [.int .i64 x].toArray w (Rets (iv (sineI x)) (w)) :=
 uY (x := .a (ivC (sineI x))) (yV (N := 60) (ps := [.n .i64 x]) tabOk mixed (OrL.ok (l := L9) L9_ok) ((by kernel_rfl : _ = bif decide (0 ≤ x ∧ x ≤ 8192) then (bif iw (up x 3) then (bif iw (dn x 5) then (bif iw (up x 7) then (bif iw (dn x 3) then (bif iw (up x 5) then (bif iw (dn x 7) then (bif iw (up x 9) then (bif (iw (rSineU x) && iw (rSineL x)) then some (.v (.a [.n .i64 (encI (rSineL x) (rSineU x)).lo, .n .i64 (encI (rSineL x) (rSineU x)).hi]), [])
 else none)
 else none)
 else none)
 else none)
 else none)
 else none)
 else none)
 else none)
 else none).trans (by
 have iL : iw (rSineL x) = true := iww _
 have iU : iw (rSineU x) = true := iww _
 rw [rSineL_eq h] at iL ⊢
 rw [rSineU_eq h] at iU ⊢
 simp only [decide_eq_true h, pw_up h, iw_up h, iw_dn h, iL, iU, cond_true, Bool.and_self]
 rfl))) rfl rfl w
namespace Ta
def rCosineL (x : Int) : Int := (IntKind.i64.wrap ((IntKind.i64.wrap ((IntKind.i64.wrap ((IntKind.i64.wrap ((IntKind.i64.wrap (1073741824 - ceilI (up x 2) 2)) + (dn x 4) / 24)) - ceilI (up x 6) 720)) + (dn x 8) / 40320)) - ceilI (up x 10) 3628800))
theorem rCosineL_eq {x : Int} (h : 0 ≤ x ∧ x ≤ 8192) : rCosineL x = cosL x := by
 have d4 := qWX h 4
 have d8 := qWX h 8
 have u2 := qKK h 2
 have u6 := qKK h 6
 have u10 := qKK h 10
 have c10 := kQ (r := ceilI (up x 10) 3628800) rfl u10 (by decide)
 have c2 := kQ (r := ceilI (up x 2) 2) rfl u2 (by decide)
 have c6 := kQ (r := ceilI (up x 6) 720) rfl u6 (by decide)
 unfold rCosineL cosL
 have w0 : IntKind.i64.wrap (1073741824 - ceilI (up x 2) 2) = (1073741824 - ceilI (up x 2) 2) := zX (by omega)
 have w1 : IntKind.i64.wrap ((1073741824 - ceilI (up x 2) 2) + (dn x 4) / 24) = ((1073741824 - ceilI (up x 2) 2) + (dn x 4) / 24) := zX (by omega)
 have w2 : IntKind.i64.wrap (((1073741824 - ceilI (up x 2) 2) + (dn x 4) / 24) - ceilI (up x 6) 720) = (((1073741824 - ceilI (up x 2) 2) + (dn x 4) / 24) - ceilI (up x 6) 720) := zX (by omega)
 have w3 : IntKind.i64.wrap ((((1073741824 - ceilI (up x 2) 2) + (dn x 4) / 24) - ceilI (up x 6) 720) + (dn x 8) / 40320) = ((((1073741824 - ceilI (up x 2) 2) + (dn x 4) / 24) - ceilI (up x 6) 720) + (dn x 8) / 40320) := zX (by omega)
 have w4 : IntKind.i64.wrap (((((1073741824 - ceilI (up x 2) 2) + (dn x 4) / 24) - ceilI (up x 6) 720) + (dn x 8) / 40320) - ceilI (up x 10) 3628800) = (((((1073741824 - ceilI (up x 2) 2) + (dn x 4) / 24) - ceilI (up x 6) 720) + (dn x 8) / 40320) - ceilI (up x 10) 3628800) := zX (by omega)
 simp only [w0, w1, w2, w3, w4]
 try omega
def rCosineU (x : Int) : Int := (IntKind.i64.wrap ((IntKind.i64.wrap ((IntKind.i64.wrap ((IntKind.i64.wrap (1073741824 - (dn x 2) / 2)) + ceilI (up x 4) 24)) - (dn x 6) / 720)) + ceilI (up x 8) 40320))
theorem rCosineU_eq {x : Int} (h : 0 ≤ x ∧ x ≤ 8192) : rCosineU x = cosU x := by
 have d2 := qWX h 2
 have d6 := qWX h 6
 have u4 := qKK h 4
 have u8 := qKK h 8
 have c4 := kQ (r := ceilI (up x 4) 24) rfl u4 (by decide)
 have c8 := kQ (r := ceilI (up x 8) 40320) rfl u8 (by decide)
 unfold rCosineU cosU
 have w0 : IntKind.i64.wrap (1073741824 - (dn x 2) / 2) = (1073741824 - (dn x 2) / 2) := zX (by omega)
 have w1 : IntKind.i64.wrap ((1073741824 - (dn x 2) / 2) + ceilI (up x 4) 24) = ((1073741824 - (dn x 2) / 2) + ceilI (up x 4) 24) := zX (by omega)
 have w2 : IntKind.i64.wrap (((1073741824 - (dn x 2) / 2) + ceilI (up x 4) 24) - (dn x 6) / 720) = (((1073741824 - (dn x 2) / 2) + ceilI (up x 4) 24) - (dn x 6) / 720) := zX (by omega)
 have w3 : IntKind.i64.wrap ((((1073741824 - (dn x 2) / 2) + ceilI (up x 4) 24) - (dn x 6) / 720) + ceilI (up x 8) 40320) = ((((1073741824 - (dn x 2) / 2) + ceilI (up x 4) 24) - (dn x 6) / 720) + ceilI (up x 8) 40320) := zX (by omega)
 simp only [w0, w1, w2, w3]
 try omega
end Ta
set_option maxRecDepth 100000 in
theorem rCosine (x : Int) (h : 0 ≤ x ∧ x ≤ 8192) (w : World) : Calls Tryz.prog 191 [.int .i64 x].toArray w (Rets (iv (qGQ x)) (w)) :=
 uY (x := .a (ivC (qGQ x))) (yV (N := 60) (ps := [.n .i64 x]) tabOk mixed (OrL.ok (l := L9) L9_ok) ((by kernel_rfl : _ = bif decide (0 ≤ x ∧ x ≤ 8192) then (bif iw (up x 2) then (bif iw (dn x 4) then (bif iw (up x 6) then (bif iw (dn x 8) then (bif iw (up x 10) then (bif iw (dn x 2) then (bif iw (up x 4) then (bif iw (dn x 6) then (bif iw (up x 8) then (bif (iw (rCosineU x) && iw (rCosineL x)) then some (.v (.a [.n .i64 (encI (rCosineL x) (rCosineU x)).lo, .n .i64 (encI (rCosineL x) (rCosineU x)).hi]), [])
 else none)
 else none)
 else none)
 else none)
 else none)
 else none)
 else none)
 else none)
 else none)
 else none)
 else none).trans (by
 have iL : iw (rCosineL x) = true := iww _
 have iU : iw (rCosineU x) = true := iww _
 rw [rCosineL_eq h] at iL ⊢
 rw [rCosineU_eq h] at iU ⊢
 simp only [decide_eq_true h, pw_up h, iw_up h, iw_dn h, iL, iU, cond_true, Bool.and_self]
 rfl))) rfl rfl w
namespace Ta
noncomputable def o_aSine : List PV → Option (Bool × Ret) := fun ps => match ps with
 | [.n .i64 x] => some (decide (0 ≤ x ∧ x ≤ 8192), .v (.a (ivC (sineI x))))
 | _ => none
theorem ok_aSine : OneOk Tryz.prog 193 o_aSine := by
 intro ps r h
 unfold o_aSine at h
 split at h
 ·simp only [Option.some.injEq, Prod.mk.injEq] at h
  obtain ⟨hg, rfl⟩ := h
  try simp only [Bool.and_eq_true, decide_eq_true_eq] at hg
  exact yJ (zZ Tryz.func193 (by kernel_rfl) (by kernel_rfl)) rfl rfl (fun w => aSine _ hg w)
 ·cases h
noncomputable def L10 : OrL := (193, o_aSine) :: L9
theorem L10_ok : AllP (fun x : Nat × (List PV → Option (Bool × Ret)) => OneOk Tryz.prog x.1 x.2) L10 := ⟨ok_aSine, L9_ok⟩
noncomputable def o_aCosine : List PV → Option (Bool × Ret) := fun ps => match ps with
 | [.n .i64 x] => some (decide (0 ≤ x ∧ x ≤ 8192), .v (.a (ivC (qGQ x))))
 | _ => none
theorem ok_aCosine : OneOk Tryz.prog 194 o_aCosine := by
 intro ps r h
 unfold o_aCosine at h
 split at h
 ·simp only [Option.some.injEq, Prod.mk.injEq] at h
  obtain ⟨hg, rfl⟩ := h
  try simp only [Bool.and_eq_true, decide_eq_true_eq] at hg
  exact yJ (zZ Tryz.func194 (by kernel_rfl) (by kernel_rfl)) rfl rfl (fun w => aCosine _ hg w)
 ·cases h
noncomputable def L11 : OrL := (194, o_aCosine) :: L10
theorem L11_ok : AllP (fun x : Nat × (List PV → Option (Bool × Ret)) => OneOk Tryz.prog x.1 x.2) L11 := ⟨ok_aCosine, L10_ok⟩
noncomputable def o_rSine : List PV → Option (Bool × Ret) := fun ps => match ps with
 | [.n .i64 x] => some (decide (0 ≤ x ∧ x ≤ 8192), .v (.a (ivC (sineI x))))
 | _ => none
theorem ok_rSine : OneOk Tryz.prog 190 o_rSine := by
 intro ps r h
 unfold o_rSine at h
 split at h
 ·simp only [Option.some.injEq, Prod.mk.injEq] at h
  obtain ⟨hg, rfl⟩ := h
  try simp only [Bool.and_eq_true, decide_eq_true_eq] at hg
  exact yJ (zZ Tryz.func190 (by kernel_rfl) (by kernel_rfl)) rfl rfl (fun w => rSine _ hg w)
 ·cases h
noncomputable def L12 : OrL := (190, o_rSine) :: L11
theorem L12_ok : AllP (fun x : Nat × (List PV → Option (Bool × Ret)) => OneOk Tryz.prog x.1 x.2) L12 := ⟨ok_rSine, L11_ok⟩
noncomputable def o_rCosine : List PV → Option (Bool × Ret) := fun ps => match ps with
 | [.n .i64 x] => some (decide (0 ≤ x ∧ x ≤ 8192), .v (.a (ivC (qGQ x))))
 | _ => none
theorem ok_rCosine : OneOk Tryz.prog 191 o_rCosine := by
 intro ps r h
 unfold o_rCosine at h
 split at h
 ·simp only [Option.some.injEq, Prod.mk.injEq] at h
  obtain ⟨hg, rfl⟩ := h
  try simp only [Bool.and_eq_true, decide_eq_true_eq] at hg
  exact yJ (zZ Tryz.func191 (by kernel_rfl) (by kernel_rfl)) rfl rfl (fun w => rCosine _ hg w)
 ·cases h
noncomputable def L13 : OrL := (191, o_rCosine) :: L12
theorem L13_ok : AllP (fun x : Nat × (List PV → Option (Bool × Ret)) => OneOk Tryz.prog x.1 x.2) L13 := ⟨ok_rCosine, L12_ok⟩
end Ta
set_option maxRecDepth 100000 in
theorem aFirst (r : Int) (h : 0 ≤ r ∧ r ≤ 16384) (w : World) : Calls Tryz.prog 189 [.int .i64 r].toArray w (Rets (iv (firstI r)) (w)) :=
 uY (x := .a (ivC (firstI r))) (yV (N := 60) (ps := [.n .i64 r]) tabOk mixed (OrL.ok (l := L13) L13_ok) ((by kernel_rfl : _ = bif (decide (r ≤ 8192)) then (bif decide (0 ≤ r ∧ r ≤ 8192) then some (.v (.a [.n .i64 (sineI r).lo, .n .i64 (sineI r).hi]), [])
 else none)
 else bif decide (0 ≤ (IntKind.i64.wrap (16384 - r)) ∧ (IntKind.i64.wrap (16384 - r)) ≤ 8192) then some (.v (.a [.n .i64 (qGQ (IntKind.i64.wrap (16384 - r))).lo, .n .i64 (qGQ (IntKind.i64.wrap (16384 - r))).hi]), [])
 else none).trans (by
 by_cases p : r ≤ 8192
 ·simp only [decide_eq_true p, cond_true, decide_eq_true (show 0 ≤ r ∧ r ≤ 8192 by omega)]
  unfold firstI
  rw [decide_eq_true p]; rfl
 ·have w0 : IntKind.i64.wrap (16384 - r) = 16384 - r := zX (by omega)
  simp only [w0, decide_eq_false p, cond_false, decide_eq_true (show 0 ≤ 16384 - r ∧ 16384 - r ≤ 8192 by omega), cond_true]
  unfold firstI
  rw [decide_eq_false p]; rfl))) rfl rfl w
set_option maxRecDepth 100000 in
theorem rQuarter (r : Int) (h : 0 ≤ r ∧ r ≤ 16384) (w : World) : Calls Tryz.prog 183 [.int .i64 r].toArray w (Rets (iv (firstI r)) (w)) :=
 uY (x := .a (ivC (firstI r))) (yV (N := 60) (ps := [.n .i64 r]) tabOk mixed (OrL.ok (l := L13) L13_ok) ((by kernel_rfl : _ = bif (decide (r ≤ 8192)) then (bif decide (0 ≤ r ∧ r ≤ 8192) then some (.v (.a [.n .i64 (sineI r).lo, .n .i64 (sineI r).hi]), [])
 else none)
 else bif decide (0 ≤ (IntKind.i64.wrap (16384 - r)) ∧ (IntKind.i64.wrap (16384 - r)) ≤ 8192) then some (.v (.a [.n .i64 (qGQ (IntKind.i64.wrap (16384 - r))).lo, .n .i64 (qGQ (IntKind.i64.wrap (16384 - r))).hi]), [])
 else none).trans (by
 by_cases p : r ≤ 8192
 ·simp only [decide_eq_true p, cond_true, decide_eq_true (show 0 ≤ r ∧ r ≤ 8192 by omega)]
  unfold firstI
  rw [decide_eq_true p]; rfl
 ·have w0 : IntKind.i64.wrap (16384 - r) = 16384 - r := zX (by omega)
  simp only [w0, decide_eq_false p, cond_false, decide_eq_true (show 0 ≤ 16384 - r ∧ 16384 - r ≤ 8192 by omega), cond_true]
  unfold firstI
  rw [decide_eq_false p]; rfl))) rfl rfl w
namespace Ta
noncomputable def o_aFirst : List PV → Option (Bool × Ret) := fun ps => match ps with
 | [.n .i64 r] => some (decide (0 ≤ r ∧ r ≤ 16384), .v (.a (ivC (firstI r))))
 | _ => none
theorem ok_aFirst : OneOk Tryz.prog 189 o_aFirst := by
 intro ps r h
 unfold o_aFirst at h
 split at h
 ·simp only [Option.some.injEq, Prod.mk.injEq] at h
  obtain ⟨hg, rfl⟩ := h
  try simp only [Bool.and_eq_true, decide_eq_true_eq] at hg
  exact yJ (zZ Tryz.func189 (by kernel_rfl) (by kernel_rfl)) rfl rfl (fun w => aFirst _ hg w)
 ·cases h
noncomputable def L14 : OrL := (189, o_aFirst) :: L13
theorem L14_ok : AllP (fun x : Nat × (List PV → Option (Bool × Ret)) => OneOk Tryz.prog x.1 x.2) L14 := ⟨ok_aFirst, L13_ok⟩
noncomputable def o_rQuarter : List PV → Option (Bool × Ret) := fun ps => match ps with
 | [.n .i64 r] => some (decide (0 ≤ r ∧ r ≤ 16384), .v (.a (ivC (firstI r))))
 | _ => none
theorem ok_rQuarter : OneOk Tryz.prog 183 o_rQuarter := by
 intro ps r h
 unfold o_rQuarter at h
 split at h
 ·simp only [Option.some.injEq, Prod.mk.injEq] at h
  obtain ⟨hg, rfl⟩ := h
  try simp only [Bool.and_eq_true, decide_eq_true_eq] at hg
  exact yJ (zZ Tryz.func183 (by kernel_rfl) (by kernel_rfl)) rfl rfl (fun w => rQuarter _ hg w)
 ·cases h
noncomputable def L15 : OrL := (183, o_rQuarter) :: L14
theorem L15_ok : AllP (fun x : Nat × (List PV → Option (Bool × Ret)) => OneOk Tryz.prog x.1 x.2) L15 := ⟨ok_rQuarter, L14_ok⟩
noncomputable def o_aMod : List PV → Option (Bool × Ret) := fun ps => match ps with
 | [.n .i64 a] => some (true, .v (.n .i64 ((a % 65536))))
 | _ => none
theorem ok_aMod : OneOk Tryz.prog 188 o_aMod := by
 intro ps r h
 unfold o_aMod at h
 split at h
 ·simp only [Option.some.injEq, Prod.mk.injEq] at h
  obtain ⟨hg, rfl⟩ := h
  exact yJ (zZ Tryz.func188 (by kernel_rfl) (by kernel_rfl)) rfl rfl (fun w => aMod _ w)
 ·cases h
noncomputable def L16 : OrL := (188, o_aMod) :: L15
theorem L16_ok : AllP (fun x : Nat × (List PV → Option (Bool × Ret)) => OneOk Tryz.prog x.1 x.2) L16 := ⟨ok_aMod, L15_ok⟩
noncomputable def o_rMod : List PV → Option (Bool × Ret) := fun ps => match ps with
 | [.n .i64 a] => some (true, .v (.n .i64 ((a % 65536))))
 | _ => none
theorem ok_rMod : OneOk Tryz.prog 182 o_rMod := by
 intro ps r h
 unfold o_rMod at h
 split at h
 ·simp only [Option.some.injEq, Prod.mk.injEq] at h
  obtain ⟨hg, rfl⟩ := h
  exact yJ (zZ Tryz.func182 (by kernel_rfl) (by kernel_rfl)) rfl rfl (fun w => rMod _ w)
 ·cases h
noncomputable def L17 : OrL := (182, o_rMod) :: L16
theorem L17_ok : AllP (fun x : Nat × (List PV → Option (Bool × Ret)) => OneOk Tryz.prog x.1 x.2) L17 := ⟨ok_rMod, L16_ok⟩
noncomputable def o_iNeg : List PV → Option (Bool × Ret) := fun ps => match ps with
 | [.a a'] => (ivD a').bind fun a => some (true, .v (.a (ivC (Iv.neg a))))
 | _ => none
theorem ok_iNeg : OneOk Tryz.prog 171 o_iNeg := by
 intro ps r h
 unfold o_iNeg at h
 split at h
 ·simp only [Option.bind_eq_some_iff, Option.some.injEq, Prod.mk.injEq] at h
  obtain ⟨a, ha, hg, rfl⟩ := h
  rw [qJU ha]
  exact yJ (zZ Tryz.func171 (by kernel_rfl) (by kernel_rfl)) rfl rfl (fun w => iNeg _ _ w)
 ·cases h
noncomputable def L18 : OrL := (171, o_iNeg) :: L17
theorem L18_ok : AllP (fun x : Nat × (List PV → Option (Bool × Ret)) => OneOk Tryz.prog x.1 x.2) L18 := ⟨ok_iNeg, L17_ok⟩
noncomputable def o_rNeg : List PV → Option (Bool × Ret) := fun ps => match ps with
 | [.a a'] => (ivD a').bind fun a => some (true, .v (.a (ivC (Iv.neg a))))
 | _ => none
theorem ok_rNeg : OneOk Tryz.prog 165 o_rNeg := by
 intro ps r h
 unfold o_rNeg at h
 split at h
 ·simp only [Option.bind_eq_some_iff, Option.some.injEq, Prod.mk.injEq] at h
  obtain ⟨a, ha, hg, rfl⟩ := h
  rw [qJU ha]
  exact yJ (zZ Tryz.func165 (by kernel_rfl) (by kernel_rfl)) rfl rfl (fun w => rNeg _ _ w)
 ·cases h
noncomputable def L19 : OrL := (165, o_rNeg) :: L18
theorem L19_ok : AllP (fun x : Nat × (List PV → Option (Bool × Ret)) => OneOk Tryz.prog x.1 x.2) L19 := ⟨ok_rNeg, L18_ok⟩
end Ta
set_option maxRecDepth 100000 in
theorem aSin (a : Int) (w : World) : Calls Tryz.prog 179 [.int .i64 a].toArray w (Rets (iv (sinI a)) (w)) :=
 uY (x := .a (ivC (sinI a))) (yV (N := 60) (ps := [.n .i64 a]) tabOk mixed (OrL.ok (l := L19) L19_ok) ((by kernel_rfl : _ = bif (decide ((IntKind.i64.wrap ((a % 65536).tdiv 16384)) = 0)) then (bif decide (0 ≤ ((a % 65536).tmod 16384) ∧ ((a % 65536).tmod 16384) ≤ 16384) then some (.v (.a [.n .i64 (firstI ((a % 65536).tmod 16384)).lo, .n .i64 (firstI ((a % 65536).tmod 16384)).hi]), [])
 else none)
 else bif (decide ((IntKind.i64.wrap ((a % 65536).tdiv 16384)) = 1)) then (bif decide (0 ≤ (IntKind.i64.wrap (16384 - ((a % 65536).tmod 16384))) ∧ (IntKind.i64.wrap (16384 - ((a % 65536).tmod 16384))) ≤ 16384) then some (.v (.a [.n .i64 (firstI (IntKind.i64.wrap (16384 - ((a % 65536).tmod 16384)))).lo, .n .i64 (firstI (IntKind.i64.wrap (16384 - ((a % 65536).tmod 16384)))).hi]), [])
 else none)
 else bif (decide ((IntKind.i64.wrap ((a % 65536).tdiv 16384)) = 2)) then (bif decide (0 ≤ ((a % 65536).tmod 16384) ∧ ((a % 65536).tmod 16384) ≤ 16384) then some (.v (.a [.n .i64 (Iv.neg (firstI ((a % 65536).tmod 16384))).lo, .n .i64 (Iv.neg (firstI ((a % 65536).tmod 16384))).hi]), [])
 else none)
 else bif decide (0 ≤ (IntKind.i64.wrap (16384 - ((a % 65536).tmod 16384))) ∧ (IntKind.i64.wrap (16384 - ((a % 65536).tmod 16384))) ≤ 16384) then some (.v (.a [.n .i64 (Iv.neg (firstI (IntKind.i64.wrap (16384 - ((a % 65536).tmod 16384))))).lo, .n .i64 (Iv.neg (firstI (IntKind.i64.wrap (16384 - ((a % 65536).tmod 16384))))).hi]), [])
 else none).trans (by
 have ht : (a % 65536).tdiv 16384 = a % 65536 / 16384 := tdnn (by omega)
 have hm : (a % 65536).tmod 16384 = a % 65536 % 16384 := Int.tmod_eq_emod_of_nonneg (by omega)
 have w1 : IntKind.i64.wrap (a % 65536 % 16384) = a % 65536 % 16384 := zX (by omega)
 have w2 : IntKind.i64.wrap (a % 65536 / 16384) = a % 65536 / 16384 := zX (by omega)
 have w3 : IntKind.i64.wrap (16384 - a % 65536 % 16384) = 16384 - a % 65536 % 16384 := zX (by omega)
 simp only [ht, hm, w1, w2, w3, decide_eq_true (show 0 ≤ a % 65536 % 16384 ∧ a % 65536 % 16384 ≤ 16384 by omega), decide_eq_true (show 0 ≤ 16384 - a % 65536 % 16384 ∧ 16384 - a % 65536 % 16384 ≤ 16384 by omega), cond_true]
 unfold sinI sinM
 cases decide (a % 65536 / 16384 = 0) <;> cases decide (a % 65536 / 16384 = 1) <;> cases decide (a % 65536 / 16384 = 2) <;> rfl))) rfl rfl w
set_option maxRecDepth 100000 in
theorem rSin (a : Int) (w : World) : Calls Tryz.prog 174 [.int .i64 a].toArray w (Rets (iv (sinI a)) (w)) :=
 uY (x := .a (ivC (sinI a))) (yV (N := 60) (ps := [.n .i64 a]) tabOk mixed (OrL.ok (l := L19) L19_ok) ((by kernel_rfl : _ = bif (decide ((IntKind.i64.wrap ((a % 65536).tdiv 16384)) = 0)) then (bif decide (0 ≤ ((a % 65536).tmod 16384) ∧ ((a % 65536).tmod 16384) ≤ 16384) then some (.v (.a [.n .i64 (firstI ((a % 65536).tmod 16384)).lo, .n .i64 (firstI ((a % 65536).tmod 16384)).hi]), [])
 else none)
 else bif (decide ((IntKind.i64.wrap ((a % 65536).tdiv 16384)) = 1)) then (bif decide (0 ≤ (IntKind.i64.wrap (16384 - ((a % 65536).tmod 16384))) ∧ (IntKind.i64.wrap (16384 - ((a % 65536).tmod 16384))) ≤ 16384) then some (.v (.a [.n .i64 (firstI (IntKind.i64.wrap (16384 - ((a % 65536).tmod 16384)))).lo, .n .i64 (firstI (IntKind.i64.wrap (16384 - ((a % 65536).tmod 16384)))).hi]), [])
 else none)
 else bif (decide ((IntKind.i64.wrap ((a % 65536).tdiv 16384)) = 2)) then (bif decide (0 ≤ ((a % 65536).tmod 16384) ∧ ((a % 65536).tmod 16384) ≤ 16384) then some (.v (.a [.n .i64 (Iv.neg (firstI ((a % 65536).tmod 16384))).lo, .n .i64 (Iv.neg (firstI ((a % 65536).tmod 16384))).hi]), [])
 else none)
 else bif decide (0 ≤ (IntKind.i64.wrap (16384 - ((a % 65536).tmod 16384))) ∧ (IntKind.i64.wrap (16384 - ((a % 65536).tmod 16384))) ≤ 16384) then some (.v (.a [.n .i64 (Iv.neg (firstI (IntKind.i64.wrap (16384 - ((a % 65536).tmod 16384))))).lo, .n .i64 (Iv.neg (firstI (IntKind.i64.wrap (16384 - ((a % 65536).tmod 16384))))).hi]), [])
 else none).trans (by
 have ht : (a % 65536).tdiv 16384 = a % 65536 / 16384 := tdnn (by omega)
 have hm : (a % 65536).tmod 16384 = a % 65536 % 16384 := Int.tmod_eq_emod_of_nonneg (by omega)
 have w1 : IntKind.i64.wrap (a % 65536 % 16384) = a % 65536 % 16384 := zX (by omega)
 have w2 : IntKind.i64.wrap (a % 65536 / 16384) = a % 65536 / 16384 := zX (by omega)
 have w3 : IntKind.i64.wrap (16384 - a % 65536 % 16384) = 16384 - a % 65536 % 16384 := zX (by omega)
 simp only [ht, hm, w1, w2, w3, decide_eq_true (show 0 ≤ a % 65536 % 16384 ∧ a % 65536 % 16384 ≤ 16384 by omega), decide_eq_true (show 0 ≤ 16384 - a % 65536 % 16384 ∧ 16384 - a % 65536 % 16384 ≤ 16384 by omega), cond_true]
 unfold sinI sinM
 cases decide (a % 65536 / 16384 = 0) <;> cases decide (a % 65536 / 16384 = 1) <;> cases decide (a % 65536 / 16384 = 2) <;> rfl))) rfl rfl w
namespace Ta
noncomputable def o_aSin : List PV → Option (Bool × Ret) := fun ps => match ps with
 | [.n .i64 a] => some (true, .v (.a (ivC (sinI a))))
 | _ => none
theorem ok_aSin : OneOk Tryz.prog 179 o_aSin := by
 intro ps r h
 unfold o_aSin at h
 split at h
 ·simp only [Option.some.injEq, Prod.mk.injEq] at h
  obtain ⟨hg, rfl⟩ := h
  exact yJ (zZ Tryz.func179 (by kernel_rfl) (by kernel_rfl)) rfl rfl (fun w => aSin _ w)
 ·cases h
noncomputable def L20 : OrL := (179, o_aSin) :: L19
theorem L20_ok : AllP (fun x : Nat × (List PV → Option (Bool × Ret)) => OneOk Tryz.prog x.1 x.2) L20 := ⟨ok_aSin, L19_ok⟩
noncomputable def o_rSin : List PV → Option (Bool × Ret) := fun ps => match ps with
 | [.n .i64 a] => some (true, .v (.a (ivC (sinI a))))
 | _ => none
theorem ok_rSin : OneOk Tryz.prog 174 o_rSin := by
 intro ps r h
 unfold o_rSin at h
 split at h
 ·simp only [Option.some.injEq, Prod.mk.injEq] at h
  obtain ⟨hg, rfl⟩ := h
  exact yJ (zZ Tryz.func174 (by kernel_rfl) (by kernel_rfl)) rfl rfl (fun w => rSin _ w)
 ·cases h
noncomputable def L21 : OrL := (174, o_rSin) :: L20
theorem L21_ok : AllP (fun x : Nat × (List PV → Option (Bool × Ret)) => OneOk Tryz.prog x.1 x.2) L21 := ⟨ok_rSin, L20_ok⟩
end Ta
set_option maxRecDepth 100000 in
theorem aCos (a : Int) (w : World) : Calls Tryz.prog 178 [.int .i64 a].toArray w (Rets (iv (cosI a)) (w)) :=
 uY (x := .a (ivC (cosI a))) (yV (N := 60) (ps := [.n .i64 a]) tabOk mixed (OrL.ok (l := L21) L21_ok) ((by kernel_rfl : _ = some (.v (.a [.n .i64 (sinI (IntKind.i64.wrap ((a % 65536) + 16384))).lo, .n .i64 (sinI (IntKind.i64.wrap ((a % 65536) + 16384))).hi]), [])).trans (by
 rw [zX (show -9223372036854775808 ≤ a % 65536 + 16384 ∧ a % 65536 + 16384 ≤ 9223372036854775807 by omega)]
 rfl))) rfl rfl w
set_option maxRecDepth 100000 in
theorem rCos (a : Int) (w : World) : Calls Tryz.prog 173 [.int .i64 a].toArray w (Rets (iv (cosI a)) (w)) :=
 uY (x := .a (ivC (cosI a))) (yV (N := 60) (ps := [.n .i64 a]) tabOk mixed (OrL.ok (l := L21) L21_ok) ((by kernel_rfl : _ = some (.v (.a [.n .i64 (sinI (IntKind.i64.wrap ((a % 65536) + 16384))).lo, .n .i64 (sinI (IntKind.i64.wrap ((a % 65536) + 16384))).hi]), [])).trans (by
 rw [zX (show -9223372036854775808 ≤ a % 65536 + 16384 ∧ a % 65536 + 16384 ≤ 9223372036854775807 by omega)]
 rfl))) rfl rfl w
namespace Ta
noncomputable def o_aCos : List PV → Option (Bool × Ret) := fun ps => match ps with
 | [.n .i64 a] => some (true, .v (.a (ivC (cosI a))))
 | _ => none
theorem ok_aCos : OneOk Tryz.prog 178 o_aCos := by
 intro ps r h
 unfold o_aCos at h
 split at h
 ·simp only [Option.some.injEq, Prod.mk.injEq] at h
  obtain ⟨hg, rfl⟩ := h
  exact yJ (zZ Tryz.func178 (by kernel_rfl) (by kernel_rfl)) rfl rfl (fun w => aCos _ w)
 ·cases h
noncomputable def L22 : OrL := (178, o_aCos) :: L21
theorem L22_ok : AllP (fun x : Nat × (List PV → Option (Bool × Ret)) => OneOk Tryz.prog x.1 x.2) L22 := ⟨ok_aCos, L21_ok⟩
noncomputable def o_rCos : List PV → Option (Bool × Ret) := fun ps => match ps with
 | [.n .i64 a] => some (true, .v (.a (ivC (cosI a))))
 | _ => none
theorem ok_rCos : OneOk Tryz.prog 173 o_rCos := by
 intro ps r h
 unfold o_rCos at h
 split at h
 ·simp only [Option.some.injEq, Prod.mk.injEq] at h
  obtain ⟨hg, rfl⟩ := h
  exact yJ (zZ Tryz.func173 (by kernel_rfl) (by kernel_rfl)) rfl rfl (fun w => rCos _ w)
 ·cases h
noncomputable def L23 : OrL := (173, o_rCos) :: L22
theorem L23_ok : AllP (fun x : Nat × (List PV → Option (Bool × Ret)) => OneOk Tryz.prog x.1 x.2) L23 := ⟨ok_rCos, L22_ok⟩
noncomputable def o_iValid : List PV → Option (Bool × Ret) := fun ps => match ps with
 | [.a a'] => (ivD a').bind fun a => some (true, .v (.b (Iv.valid a)))
 | _ => none
theorem ok_iValid : OneOk Tryz.prog 107 o_iValid := by
 intro ps r h
 unfold o_iValid at h
 split at h
 ·simp only [Option.bind_eq_some_iff, Option.some.injEq, Prod.mk.injEq] at h
  obtain ⟨a, ha, hg, rfl⟩ := h
  rw [qJU ha]
  exact yJ (zZ Tryz.func107 (by kernel_rfl) (by kernel_rfl)) rfl rfl (fun w => zZG _ _ w)
 ·cases h
noncomputable def L24 : OrL := (107, o_iValid) :: L23
theorem L24_ok : AllP (fun x : Nat × (List PV → Option (Bool × Ret)) => OneOk Tryz.prog x.1 x.2) L24 := ⟨ok_iValid, L23_ok⟩
noncomputable def o_iHull : List PV → Option (Bool × Ret) := fun ps => match ps with
 | [.a a', .a b'] => (ivD a').bind fun a => (ivD b').bind fun b => some (true, .v (.a (ivC (Iv.hull a b))))
 | _ => none
theorem ok_iHull : OneOk Tryz.prog 186 o_iHull := by
 intro ps r h
 unfold o_iHull at h
 split at h
 ·simp only [Option.bind_eq_some_iff, Option.some.injEq, Prod.mk.injEq] at h
  obtain ⟨a, ha, b, hb, hg, rfl⟩ := h
  rw [qJU ha]
  rw [qJU hb]
  exact yJ (zZ Tryz.func186 (by kernel_rfl) (by kernel_rfl)) rfl rfl (fun w => iHull _ _ _ _ w)
 ·cases h
noncomputable def L25 : OrL := (186, o_iHull) :: L24
theorem L25_ok : AllP (fun x : Nat × (List PV → Option (Bool × Ret)) => OneOk Tryz.prog x.1 x.2) L25 := ⟨ok_iHull, L24_ok⟩
noncomputable def o_iOf : List PV → Option (Bool × Ret) := fun ps => match ps with
 | [.n .i64 x] => some (true, .v (.a (ivC (Iv.of x))))
 | _ => none
theorem ok_iOf : OneOk Tryz.prog 99 o_iOf := by
 intro ps r h
 unfold o_iOf at h
 split at h
 ·simp only [Option.some.injEq, Prod.mk.injEq] at h
  obtain ⟨hg, rfl⟩ := h
  exact yJ (zZ Tryz.func99 (by kernel_rfl) (by kernel_rfl)) rfl rfl (fun w => iOf _ w)
 ·cases h
noncomputable def L26 : OrL := (99, o_iOf) :: L25
theorem L26_ok : AllP (fun x : Nat × (List PV → Option (Bool × Ret)) => OneOk Tryz.prog x.1 x.2) L26 := ⟨ok_iOf, L25_ok⟩
noncomputable def o_rValid : List PV → Option (Bool × Ret) := fun ps => match ps with
 | [.a a'] => (ivD a').bind fun a => some (true, .v (.b (Iv.valid a)))
 | _ => none
theorem ok_rValid : OneOk Tryz.prog 147 o_rValid := by
 intro ps r h
 unfold o_rValid at h
 split at h
 ·simp only [Option.bind_eq_some_iff, Option.some.injEq, Prod.mk.injEq] at h
  obtain ⟨a, ha, hg, rfl⟩ := h
  rw [qJU ha]
  exact yJ (zZ Tryz.func147 (by kernel_rfl) (by kernel_rfl)) rfl rfl (fun w => zQQ _ _ w)
 ·cases h
noncomputable def L27 : OrL := (147, o_rValid) :: L26
theorem L27_ok : AllP (fun x : Nat × (List PV → Option (Bool × Ret)) => OneOk Tryz.prog x.1 x.2) L27 := ⟨ok_rValid, L26_ok⟩
noncomputable def o_rHull : List PV → Option (Bool × Ret) := fun ps => match ps with
 | [.a a', .a b'] => (ivD a').bind fun a => (ivD b').bind fun b => some (true, .v (.a (ivC (Iv.hull a b))))
 | _ => none
theorem ok_rHull : OneOk Tryz.prog 180 o_rHull := by
 intro ps r h
 unfold o_rHull at h
 split at h
 ·simp only [Option.bind_eq_some_iff, Option.some.injEq, Prod.mk.injEq] at h
  obtain ⟨a, ha, b, hb, hg, rfl⟩ := h
  rw [qJU ha]
  rw [qJU hb]
  exact yJ (zZ Tryz.func180 (by kernel_rfl) (by kernel_rfl)) rfl rfl (fun w => rHull _ _ _ _ w)
 ·cases h
noncomputable def L28 : OrL := (180, o_rHull) :: L27
theorem L28_ok : AllP (fun x : Nat × (List PV → Option (Bool × Ret)) => OneOk Tryz.prog x.1 x.2) L28 := ⟨ok_rHull, L27_ok⟩
noncomputable def o_rOf : List PV → Option (Bool × Ret) := fun ps => match ps with
 | [.n .i64 x] => some (true, .v (.a (ivC (Iv.of x))))
 | _ => none
theorem ok_rOf : OneOk Tryz.prog 31 o_rOf := by
 intro ps r h
 unfold o_rOf at h
 split at h
 ·simp only [Option.some.injEq, Prod.mk.injEq] at h
  obtain ⟨hg, rfl⟩ := h
  exact yJ (zZ Tryz.func31 (by kernel_rfl) (by kernel_rfl)) rfl rfl (fun w => rOf _ w)
 ·cases h
noncomputable def L29 : OrL := (31, o_rOf) :: L28
theorem L29_ok : AllP (fun x : Nat × (List PV → Option (Bool × Ret)) => OneOk Tryz.prog x.1 x.2) L29 := ⟨ok_rOf, L28_ok⟩
noncomputable def o_iWidth : List PV → Option (Bool × Ret) := fun ps => match ps with
 | [.a a'] => (ivD a').bind fun a => some (true, .v (.n .i64 (Iv.width a)))
 | _ => none
theorem ok_iWidth : OneOk Tryz.prog 185 o_iWidth := by
 intro ps r h
 unfold o_iWidth at h
 split at h
 ·simp only [Option.bind_eq_some_iff, Option.some.injEq, Prod.mk.injEq] at h
  obtain ⟨a, ha, hg, rfl⟩ := h
  rw [qJU ha]
  exact yJ (zZ Tryz.func185 (by kernel_rfl) (by kernel_rfl)) rfl rfl (fun w => iWidth _ _ w)
 ·cases h
noncomputable def L30 : OrL := (185, o_iWidth) :: L29
theorem L30_ok : AllP (fun x : Nat × (List PV → Option (Bool × Ret)) => OneOk Tryz.prog x.1 x.2) L30 := ⟨ok_iWidth, L29_ok⟩
noncomputable def o_aMeets : List PV → Option (Bool × Ret) := fun ps => match ps with
 | [.a a', .n .i64 c] => (ivD a').bind fun a => some (decide (0 ≤ c ∧ c < 65536) && Iv.valid a, .v (.b (qQZ a c)))
 | _ => none
theorem ok_aMeets : OneOk Tryz.prog 187 o_aMeets := by
 intro ps r h
 unfold o_aMeets at h
 split at h
 ·simp only [Option.bind_eq_some_iff, Option.some.injEq, Prod.mk.injEq] at h
  obtain ⟨a, ha, hg, rfl⟩ := h
  rw [qJU ha]
  try simp only [Bool.and_eq_true, decide_eq_true_eq] at hg
  exact yJ (zZ Tryz.func187 (by kernel_rfl) (by kernel_rfl)) rfl rfl (fun w => aMeets _ _ _ hg.2 hg.1 w)
 ·cases h
noncomputable def L31 : OrL := (187, o_aMeets) :: L30
theorem L31_ok : AllP (fun x : Nat × (List PV → Option (Bool × Ret)) => OneOk Tryz.prog x.1 x.2) L31 := ⟨ok_aMeets, L30_ok⟩
noncomputable def o_rMeets : List PV → Option (Bool × Ret) := fun ps => match ps with
 | [.a a', .n .i64 c] => (ivD a').bind fun a => some (decide (0 ≤ c ∧ c < 65536) && Iv.valid a, .v (.b (qQZ a c)))
 | _ => none
theorem ok_rMeets : OneOk Tryz.prog 181 o_rMeets := by
 intro ps r h
 unfold o_rMeets at h
 split at h
 ·simp only [Option.bind_eq_some_iff, Option.some.injEq, Prod.mk.injEq] at h
  obtain ⟨a, ha, hg, rfl⟩ := h
  rw [qJU ha]
  try simp only [Bool.and_eq_true, decide_eq_true_eq] at hg
  exact yJ (zZ Tryz.func181 (by kernel_rfl) (by kernel_rfl)) rfl rfl (fun w => rMeets _ _ _ hg.2 hg.1 w)
 ·cases h
noncomputable def L32 : OrL := (181, o_rMeets) :: L31
theorem L32_ok : AllP (fun x : Nat × (List PV → Option (Bool × Ret)) => OneOk Tryz.prog x.1 x.2) L32 := ⟨ok_rMeets, L31_ok⟩
end Ta
set_option maxRecDepth 100000 in
theorem aSinOver (a0 a1 : Int) (w : World) : Calls Tryz.prog 170 [.agg #[.int .i64 a0, .int .i64 a1]].toArray w (Rets (iv (qXK (⟨a0, a1⟩ : Iv))) (w)) :=
 uY (x := .a (ivC (qXK ⟨a0, a1⟩))) (yV (N := 60) (ps := [.a [.n .i64 a0, .n .i64 a1]]) tabOk mixed (OrL.ok (l := L32) L32_ok) ((by kernel_rfl : _ = bif Iv.valid (Iv.mk a0 a1) then (bif (decide (65536 ≤ Iv.width (Iv.mk a0 a1))) then some (.v (.a [.n .i64 (-65536), .n .i64 65536]), [])
 else bif Iv.valid (Iv.mk a0 a1) then (bif qQZ (Iv.mk a0 a1) 16384 then (bif Iv.valid (Iv.mk a0 a1) then (bif qQZ (Iv.mk a0 a1) 49152 then some (.v (.a [.n .i64 (Iv.hull (Iv.hull (Iv.hull (sinI a0) (sinI a1)) (Iv.of 65536)) (Iv.of (-65536))).lo, .n .i64 (Iv.hull (Iv.hull (Iv.hull (sinI a0) (sinI a1)) (Iv.of 65536)) (Iv.of (-65536))).hi]), [])
 else some (.v (.a [.n .i64 (Iv.hull (Iv.hull (sinI a0) (sinI a1)) (Iv.of 65536)).lo, .n .i64 (Iv.hull (Iv.hull (sinI a0) (sinI a1)) (Iv.of 65536)).hi]), []))
 else none)
 else bif Iv.valid (Iv.mk a0 a1) then (bif qQZ (Iv.mk a0 a1) 49152 then some (.v (.a [.n .i64 (Iv.hull (Iv.hull (sinI a0) (sinI a1)) (Iv.of (-65536))).lo, .n .i64 (Iv.hull (Iv.hull (sinI a0) (sinI a1)) (Iv.of (-65536))).hi]), [])
 else some (.v (.a [.n .i64 (Iv.hull (sinI a0) (sinI a1)).lo, .n .i64 (Iv.hull (sinI a0) (sinI a1)).hi]), []))
 else none)
 else none)
 else some (.v (.a [.n .i64 0, .n .i64 0]), [])).trans (by
 have e : qXK ⟨a0, a1⟩ = bif !Iv.valid (Iv.mk a0 a1) then ⟨0, 0⟩ else bif decide (65536 ≤ a1 - a0) then ⟨-65536, 65536⟩ else bif qQZ (Iv.mk a0 a1) 49152 then Iv.hull (bif qQZ (Iv.mk a0 a1) 16384 then Iv.hull (Iv.hull (sinI a0) (sinI a1)) (Iv.of 65536) else Iv.hull (sinI a0) (sinI a1)) (Iv.of (-65536)) else (bif qQZ (Iv.mk a0 a1) 16384 then Iv.hull (Iv.hull (sinI a0) (sinI a1)) (Iv.of 65536) else Iv.hull (sinI a0) (sinI a1)) := rfl
 rw [e]
 cases hv : Iv.valid (Iv.mk a0 a1) with
 | false => rfl
 | true =>
  have hb := qYX hv
  have hw : Iv.width (Iv.mk a0 a1) = a1 - a0 := by unfold Iv.width; rw [hv]; rfl
  rw [hw]
  cases decide (65536 ≤ a1 - a0) <;> cases qQZ (Iv.mk a0 a1) 16384 <;> cases qQZ (Iv.mk a0 a1) 49152 <;> rfl))) rfl rfl w
set_option maxRecDepth 100000 in
theorem aCosOver (a0 a1 : Int) (w : World) : Calls Tryz.prog 169 [.agg #[.int .i64 a0, .int .i64 a1]].toArray w (Rets (iv (qXX (⟨a0, a1⟩ : Iv))) (w)) :=
 uY (x := .a (ivC (qXX ⟨a0, a1⟩))) (yV (N := 60) (ps := [.a [.n .i64 a0, .n .i64 a1]]) tabOk mixed (OrL.ok (l := L32) L32_ok) ((by kernel_rfl : _ = bif Iv.valid (Iv.mk a0 a1) then (bif (decide (65536 ≤ Iv.width (Iv.mk a0 a1))) then some (.v (.a [.n .i64 (-65536), .n .i64 65536]), [])
 else bif Iv.valid (Iv.mk a0 a1) then (bif qQZ (Iv.mk a0 a1) 0 then (bif Iv.valid (Iv.mk a0 a1) then (bif qQZ (Iv.mk a0 a1) 32768 then some (.v (.a [.n .i64 (Iv.hull (Iv.hull (Iv.hull (cosI a0) (cosI a1)) (Iv.of 65536)) (Iv.of (-65536))).lo, .n .i64 (Iv.hull (Iv.hull (Iv.hull (cosI a0) (cosI a1)) (Iv.of 65536)) (Iv.of (-65536))).hi]), [])
 else some (.v (.a [.n .i64 (Iv.hull (Iv.hull (cosI a0) (cosI a1)) (Iv.of 65536)).lo, .n .i64 (Iv.hull (Iv.hull (cosI a0) (cosI a1)) (Iv.of 65536)).hi]), []))
 else none)
 else bif Iv.valid (Iv.mk a0 a1) then (bif qQZ (Iv.mk a0 a1) 32768 then some (.v (.a [.n .i64 (Iv.hull (Iv.hull (cosI a0) (cosI a1)) (Iv.of (-65536))).lo, .n .i64 (Iv.hull (Iv.hull (cosI a0) (cosI a1)) (Iv.of (-65536))).hi]), [])
 else some (.v (.a [.n .i64 (Iv.hull (cosI a0) (cosI a1)).lo, .n .i64 (Iv.hull (cosI a0) (cosI a1)).hi]), []))
 else none)
 else none)
 else some (.v (.a [.n .i64 0, .n .i64 0]), [])).trans (by
 have e : qXX ⟨a0, a1⟩ = bif !Iv.valid (Iv.mk a0 a1) then ⟨0, 0⟩ else bif decide (65536 ≤ a1 - a0) then ⟨-65536, 65536⟩ else bif qQZ (Iv.mk a0 a1) 32768 then Iv.hull (bif qQZ (Iv.mk a0 a1) 0 then Iv.hull (Iv.hull (cosI a0) (cosI a1)) (Iv.of 65536) else Iv.hull (cosI a0) (cosI a1)) (Iv.of (-65536)) else (bif qQZ (Iv.mk a0 a1) 0 then Iv.hull (Iv.hull (cosI a0) (cosI a1)) (Iv.of 65536) else Iv.hull (cosI a0) (cosI a1)) := rfl
 rw [e]
 cases hv : Iv.valid (Iv.mk a0 a1) with
 | false => rfl
 | true =>
  have hb := qYX hv
  have hw : Iv.width (Iv.mk a0 a1) = a1 - a0 := by unfold Iv.width; rw [hv]; rfl
  rw [hw]
  cases decide (65536 ≤ a1 - a0) <;> cases qQZ (Iv.mk a0 a1) 0 <;> cases qQZ (Iv.mk a0 a1) 32768 <;> rfl))) rfl rfl w
set_option maxRecDepth 100000 in
theorem rSinOver (a0 a1 : Int) (w : World) : Calls Tryz.prog 164 [.agg #[.int .i64 a0, .int .i64 a1]].toArray w (Rets (iv (qXK (⟨a0, a1⟩ : Iv))) (w)) :=
 uY (x := .a (ivC (qXK ⟨a0, a1⟩))) (yV (N := 60) (ps := [.a [.n .i64 a0, .n .i64 a1]]) tabOk mixed (OrL.ok (l := L32) L32_ok) ((by kernel_rfl : _ = bif Iv.valid (Iv.mk a0 a1) then (bif (decide (65536 ≤ (IntKind.i64.wrap (a1 - a0)))) then some (.v (.a [.n .i64 (-65536), .n .i64 65536]), [])
 else bif Iv.valid (Iv.mk a0 a1) then (bif qQZ (Iv.mk a0 a1) 16384 then (bif Iv.valid (Iv.mk a0 a1) then (bif qQZ (Iv.mk a0 a1) 49152 then some (.v (.a [.n .i64 (Iv.hull (Iv.hull (Iv.hull (sinI a0) (sinI a1)) (Iv.of 65536)) (Iv.of (-65536))).lo, .n .i64 (Iv.hull (Iv.hull (Iv.hull (sinI a0) (sinI a1)) (Iv.of 65536)) (Iv.of (-65536))).hi]), [])
 else some (.v (.a [.n .i64 (Iv.hull (Iv.hull (sinI a0) (sinI a1)) (Iv.of 65536)).lo, .n .i64 (Iv.hull (Iv.hull (sinI a0) (sinI a1)) (Iv.of 65536)).hi]), []))
 else none)
 else bif Iv.valid (Iv.mk a0 a1) then (bif qQZ (Iv.mk a0 a1) 49152 then some (.v (.a [.n .i64 (Iv.hull (Iv.hull (sinI a0) (sinI a1)) (Iv.of (-65536))).lo, .n .i64 (Iv.hull (Iv.hull (sinI a0) (sinI a1)) (Iv.of (-65536))).hi]), [])
 else some (.v (.a [.n .i64 (Iv.hull (sinI a0) (sinI a1)).lo, .n .i64 (Iv.hull (sinI a0) (sinI a1)).hi]), []))
 else none)
 else none)
 else some (.v (.a [.n .i64 0, .n .i64 0]), [])).trans (by
 have e : qXK ⟨a0, a1⟩ = bif !Iv.valid (Iv.mk a0 a1) then ⟨0, 0⟩ else bif decide (65536 ≤ a1 - a0) then ⟨-65536, 65536⟩ else bif qQZ (Iv.mk a0 a1) 49152 then Iv.hull (bif qQZ (Iv.mk a0 a1) 16384 then Iv.hull (Iv.hull (sinI a0) (sinI a1)) (Iv.of 65536) else Iv.hull (sinI a0) (sinI a1)) (Iv.of (-65536)) else (bif qQZ (Iv.mk a0 a1) 16384 then Iv.hull (Iv.hull (sinI a0) (sinI a1)) (Iv.of 65536) else Iv.hull (sinI a0) (sinI a1)) := rfl
 rw [e]
 cases hv : Iv.valid (Iv.mk a0 a1) with
 | false => rfl
 | true =>
  have hb := qYX hv
  have hw : IntKind.i64.wrap (a1 - a0) = a1 - a0 := zX (by omega)
  rw [hw]
  cases decide (65536 ≤ a1 - a0) <;> cases qQZ (Iv.mk a0 a1) 16384 <;> cases qQZ (Iv.mk a0 a1) 49152 <;> rfl))) rfl rfl w
set_option maxRecDepth 100000 in
theorem rCosOver (a0 a1 : Int) (w : World) : Calls Tryz.prog 163 [.agg #[.int .i64 a0, .int .i64 a1]].toArray w (Rets (iv (qXX (⟨a0, a1⟩ : Iv))) (w)) :=
 uY (x := .a (ivC (qXX ⟨a0, a1⟩))) (yV (N := 60) (ps := [.a [.n .i64 a0, .n .i64 a1]]) tabOk mixed (OrL.ok (l := L32) L32_ok) ((by kernel_rfl : _ = bif Iv.valid (Iv.mk a0 a1) then (bif (decide (65536 ≤ (IntKind.i64.wrap (a1 - a0)))) then some (.v (.a [.n .i64 (-65536), .n .i64 65536]), [])
 else bif Iv.valid (Iv.mk a0 a1) then (bif qQZ (Iv.mk a0 a1) 0 then (bif Iv.valid (Iv.mk a0 a1) then (bif qQZ (Iv.mk a0 a1) 32768 then some (.v (.a [.n .i64 (Iv.hull (Iv.hull (Iv.hull (cosI a0) (cosI a1)) (Iv.of 65536)) (Iv.of (-65536))).lo, .n .i64 (Iv.hull (Iv.hull (Iv.hull (cosI a0) (cosI a1)) (Iv.of 65536)) (Iv.of (-65536))).hi]), [])
 else some (.v (.a [.n .i64 (Iv.hull (Iv.hull (cosI a0) (cosI a1)) (Iv.of 65536)).lo, .n .i64 (Iv.hull (Iv.hull (cosI a0) (cosI a1)) (Iv.of 65536)).hi]), []))
 else none)
 else bif Iv.valid (Iv.mk a0 a1) then (bif qQZ (Iv.mk a0 a1) 32768 then some (.v (.a [.n .i64 (Iv.hull (Iv.hull (cosI a0) (cosI a1)) (Iv.of (-65536))).lo, .n .i64 (Iv.hull (Iv.hull (cosI a0) (cosI a1)) (Iv.of (-65536))).hi]), [])
 else some (.v (.a [.n .i64 (Iv.hull (cosI a0) (cosI a1)).lo, .n .i64 (Iv.hull (cosI a0) (cosI a1)).hi]), []))
 else none)
 else none)
 else some (.v (.a [.n .i64 0, .n .i64 0]), [])).trans (by
 have e : qXX ⟨a0, a1⟩ = bif !Iv.valid (Iv.mk a0 a1) then ⟨0, 0⟩ else bif decide (65536 ≤ a1 - a0) then ⟨-65536, 65536⟩ else bif qQZ (Iv.mk a0 a1) 32768 then Iv.hull (bif qQZ (Iv.mk a0 a1) 0 then Iv.hull (Iv.hull (cosI a0) (cosI a1)) (Iv.of 65536) else Iv.hull (cosI a0) (cosI a1)) (Iv.of (-65536)) else (bif qQZ (Iv.mk a0 a1) 0 then Iv.hull (Iv.hull (cosI a0) (cosI a1)) (Iv.of 65536) else Iv.hull (cosI a0) (cosI a1)) := rfl
 rw [e]
 cases hv : Iv.valid (Iv.mk a0 a1) with
 | false => rfl
 | true =>
  have hb := qYX hv
  have hw : IntKind.i64.wrap (a1 - a0) = a1 - a0 := zX (by omega)
  rw [hw]
  cases decide (65536 ≤ a1 - a0) <;> cases qQZ (Iv.mk a0 a1) 0 <;> cases qQZ (Iv.mk a0 a1) 32768 <;> rfl))) rfl rfl w
end Go.Proofs.YtmbnpjpggccefaaGreat
namespace Go.Sx
structure J where
 name : ByteArray
 kind : Int
 parent : Int
 off : Z3
 lo : Int
 hi : Int
 weight : Int
 speed : Int
 accel : Int
 torque : Int
def jc (j : J) : List Value := [.string j.name, .int .i64 j.kind, .int .i64 j.parent, .int .i64 j.off.x, .int .i64 j.off.y, .int .i64 j.off.z, .int .i64 j.lo, .int .i64 j.hi, .int .i64 j.weight, .int .i64 j.speed, .int .i64 j.accel, .int .i64 j.torque]
def jv (j : J) : Value := .agg #[.string j.name, .int .i64 j.kind, .int .i64 j.parent, .int .i64 j.off.x, .int .i64 j.off.y, .int .i64 j.off.z, .int .i64 j.lo, .int .i64 j.hi, .int .i64 j.weight, .int .i64 j.speed, .int .i64 j.accel, .int .i64 j.torque]
def abc : ByteArray := ⟨#[97, 98, 99, 100, 101, 102, 103, 104, 105, 106]⟩
def letterB (k : Int) : ByteArray := abc.extract k.toNat (k + 1).toNat
def qQY (k : Int) : Int := if k = 0 then 3 else if k = 1 then 3 else if k = 2 then 1 else if k = 3 then 2 else if k = 4 then 4 else if k = 5 then 5 else if k = 6 then 3 else 0
def jBase (L : List Int) (p : Nat) (k : Int) : J := ⟨letterB k, qQY (srcR L (p + 2) 8), if srcR L (p + 3) 4 = 1 then -1 else k - 1, if 0 < k then ⟨131072, srcS L (p + 4) 2 * 32768, srcS L (p + 5) 1 * 32768⟩ else ⟨0, 0, 0⟩, 0, 0, 1 + srcR L p 4, 65536, 65536 + srcR L (p + 1) 3, 327680⟩
def jQ (p : Nat) (k : Int) : Nat := if 0 < k then p + 6 else p + 4
def qVK (L : List Int) (p : Nat) (k : Int) : J × Nat :=
 if qQY (srcR L (p + 2) 8) = 0 then (jBase L p k, jQ p k)
 else if qQY (srcR L (p + 2) 8) = 4 ∨ qQY (srcR L (p + 2) 8) = 5 then ({ jBase L p k with lo := -srcR L (jQ p k) 3 * 65536, hi := srcR L (jQ p k + 1) 4 * 32768 }, jQ p k + 2)
 else ({ jBase L p k with lo := (-srcR L (jQ p k) 5 * 65536).tdiv 8, hi := ((1 + srcR L (jQ p k + 1) 4) * 65536).tdiv 8 + srcR L (jQ p k + 2) 3 }, jQ p k + 3)
theorem qZG {p : Nat} {k : Int} (h : 0 < k) : jQ p k = p + 6 := if_pos h
theorem qZH {p : Nat} {k : Int} (h : ¬ 0 < k) : jQ p k = p + 4 := if_neg h
theorem jointOf_fix {L : List Int} {p : Nat} {k : Int} (h : qQY (srcR L (p + 2) 8) = 0) : qVK L p k = (jBase L p k, jQ p k) := if_pos h
theorem qKH {L : List Int} {p : Nat} {k : Int} (h : qQY (srcR L (p + 2) 8) = 4 ∨ qQY (srcR L (p + 2) 8) = 5) : qVK L p k = ({ jBase L p k with lo := -srcR L (jQ p k) 3 * 65536, hi := srcR L (jQ p k + 1) 4 * 32768 }, jQ p k + 2) := by
 unfold qVK
 rw [if_neg (by omega), if_pos h]
theorem jointOf_tu {L : List Int} {p : Nat} {k : Int} (h0 : ¬ qQY (srcR L (p + 2) 8) = 0) (h : ¬ (qQY (srcR L (p + 2) 8) = 4 ∨ qQY (srcR L (p + 2) 8) = 5)) : qVK L p k = ({ jBase L p k with lo := (-srcR L (jQ p k) 5 * 65536).tdiv 8, hi := ((1 + srcR L (jQ p k + 1) 4) * 65536).tdiv 8 + srcR L (jQ p k + 2) 3 }, jQ p k + 3) := by
 unfold qVK
 rw [if_neg h0, if_neg h]
theorem qXQ {L : List Int} {p : Nat} {k : Int} (hp : srcR L (p + 3) 4 = 1) (h : 0 < k) : jBase L p k = ⟨letterB k, qQY (srcR L (p + 2) 8), -1, ⟨131072, srcS L (p + 4) 2 * 32768, srcS L (p + 5) 1 * 32768⟩, 0, 0, 1 + srcR L p 4, 65536, 65536 + srcR L (p + 1) 3, 327680⟩ := by unfold jBase; rw [if_pos hp, if_pos h]
theorem qUH {L : List Int} {p : Nat} {k : Int} (hp : srcR L (p + 3) 4 = 1) (h : ¬ 0 < k) : jBase L p k = ⟨letterB k, qQY (srcR L (p + 2) 8), -1, ⟨0, 0, 0⟩, 0, 0, 1 + srcR L p 4, 65536, 65536 + srcR L (p + 1) 3, 327680⟩ := by unfold jBase; rw [if_pos hp, if_neg h]
theorem qUG {L : List Int} {p : Nat} {k : Int} (hp : ¬ srcR L (p + 3) 4 = 1) (h : 0 < k) : jBase L p k = ⟨letterB k, qQY (srcR L (p + 2) 8), k - 1, ⟨131072, srcS L (p + 4) 2 * 32768, srcS L (p + 5) 1 * 32768⟩, 0, 0, 1 + srcR L p 4, 65536, 65536 + srcR L (p + 1) 3, 327680⟩ := by unfold jBase; rw [if_neg hp, if_pos h]
theorem qUV {L : List Int} {p : Nat} {k : Int} (hp : ¬ srcR L (p + 3) 4 = 1) (h : ¬ 0 < k) : jBase L p k = ⟨letterB k, qQY (srcR L (p + 2) 8), k - 1, ⟨0, 0, 0⟩, 0, 0, 1 + srcR L p 4, 65536, 65536 + srcR L (p + 1) 3, 327680⟩ := by unfold jBase; rw [if_neg hp, if_neg h]
def nJ (L : List Int) (i : Nat) : Nat := (1 + srcR L i 3).toNat
theorem nJ_b (L : List Int) (i : Nat) : 1 ≤ nJ L i ∧ nJ L i ≤ 3 ∧ ((nJ L i : Nat) : Int) = 1 + srcR L i 3 := by
 have := qVW L i (k := 3) (by decide)
 unfold nJ
 omega
def jsOf (L : List Int) (i : Nat) : Nat → List J × Nat
 | 0 => ([], i + 1)
 | k + 1 => ((jsOf L i k).1 ++ [(qVK L (jsOf L i k).2 (k : Int)).1], (qVK L (jsOf L i k).2 (k : Int)).2)
def jsC (L : List Int) (i k : Nat) : List Value := ((jsOf L i k).1.map jc).flatten
theorem jsC_succ (L : List Int) (i k : Nat) : jsC L i (k + 1) = jsC L i k ++ jc (qVK L (jsOf L i k).2 (k : Int)).1 := by simp [jsC, jsOf]
theorem qVV (L : List Int) (i : Nat) : ∀ k, (jsOf L i k).1.length = k
 | 0 => rfl
 | k + 1 => by simp [jsOf, qVV L i k]
theorem rows12 (l : List J) : ∀ r ∈ l.map jc, r.length = 12 := fun r hr => by
 obtain ⟨v, _, rfl⟩ := List.mem_map.1 hr
 rfl
theorem js_slc {L : List Int} {i k cap : Nat} {a : Option Addr} {e : TypeId} {w : World} (h : OwnF 0 e 12 a cap k (jsC L i k) w) : SlcIs 12 a ((jsOf L i k).1.map jc) w := by
 refine zQY (m := 0) (e := e) (cap := cap) (rows12 _) ?_
 rw [List.length_map, qVV]
 exact h
structure Ms where
 link : Int
 mass : Int
 p : Z3
def mc (m : Ms) : List Value := [.int .i64 m.link, .int .i64 m.mass, .int .i64 m.p.x, .int .i64 m.p.y, .int .i64 m.p.z]
def mQ (L : List Int) (i : Nat) : Nat := (jsOf L i (nJ L i)).2
def nM (L : List Int) (i : Nat) : Nat := (srcR L (mQ L i) 3).toNat
theorem nM_b (L : List Int) (i : Nat) : nM L i ≤ 2 ∧ ((nM L i : Nat) : Int) = srcR L (mQ L i) 3 := by
 have := qVW L (mQ L i) (k := 3) (by decide)
 unfold nM
 omega
def msOf (L : List Int) (i : Nat) : Nat → List Ms
 | 0 => []
 | k + 1 => msOf L i k ++ [⟨srcR L (mQ L i + 1 + 4 * k) (nJ L i), 1 + srcR L (mQ L i + 1 + 4 * k + 1) 9000, ⟨srcS L (mQ L i + 1 + 4 * k + 2) 3 * 32768, 0, srcS L (mQ L i + 1 + 4 * k + 3) 2 * 32768⟩⟩]
def msC (L : List Int) (i k : Nat) : List Value := ((msOf L i k).map mc).flatten
theorem msC_succ (L : List Int) (i k : Nat) : msC L i (k + 1) = msC L i k ++ mc ⟨srcR L (mQ L i + 1 + 4 * k) (nJ L i), 1 + srcR L (mQ L i + 1 + 4 * k + 1) 9000, ⟨srcS L (mQ L i + 1 + 4 * k + 2) 3 * 32768, 0, srcS L (mQ L i + 1 + 4 * k + 3) 2 * 32768⟩⟩ := by simp [msC, msOf]
theorem msOf_len (L : List Int) (i : Nat) : ∀ k, (msOf L i k).length = k
 | 0 => rfl
 | k + 1 => by simp [msOf, msOf_len L i k]
theorem rows5 (l : List Ms) : ∀ r ∈ l.map mc, r.length = 5 := fun r hr => by
 obtain ⟨v, _, rfl⟩ := List.mem_map.1 hr
 rfl
theorem ms_slc {L : List Int} {i k cap : Nat} {a : Option Addr} {e : TypeId} {w : World} (h : OwnF 0 e 5 a cap k (msC L i k) w) : SlcIs 5 a ((msOf L i k).map mc) w := by
 refine zQY (m := 0) (e := e) (cap := cap) (rows5 _) ?_
 rw [List.length_map, msOf_len]
 exact h
def robQ (L : List Int) (i : Nat) : Nat := mQ L i + 1 + 4 * nM L i
structure Sp where
 link : Int
 radius : Int
 pts : List Z3
end Go.Sx
namespace Go.Sx
open Go.RowKit
structure Cn where
 kind : Int
 link : Int
 p : Z3
 n : Z3
 lo : Int
 hi : Int
def cnc (c : Cn) : List Value := [.int .i64 c.kind, .int .i64 c.link, .int .i64 c.p.x, .int .i64 c.p.y, .int .i64 c.p.z, .int .i64 c.n.x, .int .i64 c.n.y, .int .i64 c.n.z, .int .i64 c.lo, .int .i64 c.hi]
def cnOf (nf : Int → Int → Int → Z3) (L : List Int) (q : Nat) (m : Int) : Cn × Nat :=
 (⟨srcR L q 2, if srcR L (q + 10) 24 = 1 then srcR L (q + 11) 9 - 3 else srcR L (q + 1) m, ⟨(srcS L (q + 2) 4 * 65536).tdiv 2, srcS L (q + 3) 2 * 65536, (srcS L (q + 4) 2 * 65536).tdiv 2⟩,
  nf (srcR L (q + 5) 4096) (srcR L (q + 6) 4096) (srcR L (q + 7) 4096), srcS L (q + 8) 60 * 65536, srcS L (q + 8) 60 * 65536 + srcR L (q + 9) 90 * 65536⟩, if srcR L (q + 10) 24 = 1 then q + 12 else q + 11)
def cnsOf (nf : Int → Int → Int → Z3) (L : List Int) (m : Int) : Nat → List Cn × Nat
 | 0 => ([], 0)
 | k + 1 => ((cnsOf nf L m k).1 ++ [(cnOf nf L (cnsOf nf L m k).2 m).1], (cnOf nf L (cnsOf nf L m k).2 m).2)
theorem cnsOf_len (nf : Int → Int → Int → Z3) (L : List Int) (m : Int) : ∀ k, (cnsOf nf L m k).1.length = k
 | 0 => rfl
 | k + 1 => by simp [cnsOf, cnsOf_len nf L m k]
def cnC (l : List Cn) : List Value := (l.map cnc).flatten
theorem cnC_snoc (l : List Cn) (x : Cn) : cnC (l ++ [x]) = cnC l ++ cnc x := by simp [cnC]
theorem rows10 (l : List Cn) : ∀ r ∈ l.map cnc, r.length = 10 := fun r hr => by
 obtain ⟨v, _, rfl⟩ := List.mem_map.1 hr
 rfl
theorem cn_slc {l : List Cn} {k cap : Nat} {a : Option Addr} {e : TypeId} {w : World} (hl : l.length = k) (h : OwnF 0 e 10 a cap k (cnC l) w) : SlcIs 10 a (l.map cnc) w := by
 refine zQY (m := 0) (e := e) (cap := cap) (rows10 _) ?_
 rw [List.length_map, hl]
 exact h
section
variable {nf : Int → Int → Int → Z3} {L : List Int} {m : Int} {k q : Nat} {l : List Cn} {a0 a1 a2 a3 a4 a5 a6 a7 a8 a9 b0 b1 : Int} {z : Z3}
theorem cns_t (h : cnsOf nf L m k = (l, q)) (h0 : a0 = srcR L q 2) (h2 : a2 = srcS L (q + 2) 4) (h3 : a3 = srcS L (q + 3) 2) (h4 : a4 = srcS L (q + 4) 2) (h5 : a5 = srcR L (q + 5) 4096) (h6 : a6 = srcR L (q + 6) 4096) (h7 : a7 = srcR L (q + 7) 4096)
  (hz : z = nf a5 a6 a7) (h8 : a8 = srcS L (q + 8) 60) (h9 : a9 = srcR L (q + 9) 90) (hb : b0 = srcR L (q + 10) 24) (h1 : b0 = 1) (hc : b1 = srcR L (q + 11) 9) :
  cnsOf nf L m (k + 1) = (l ++ [⟨a0, b1 - 3, ⟨(a2 * 65536).tdiv 2, a3 * 65536, (a4 * 65536).tdiv 2⟩, z, a8 * 65536, a8 * 65536 + a9 * 65536⟩], q + 12) := by
 subst h0 h2 h3 h4 h5 h6 h7 hz h8 h9 hc
 simp only [cnsOf, h, cnOf, ← hb, h1, if_true]
theorem cns_f (h : cnsOf nf L m k = (l, q)) (h0 : a0 = srcR L q 2) (ha : a1 = srcR L (q + 1) m) (h2 : a2 = srcS L (q + 2) 4) (h3 : a3 = srcS L (q + 3) 2) (h4 : a4 = srcS L (q + 4) 2) (h5 : a5 = srcR L (q + 5) 4096) (h6 : a6 = srcR L (q + 6) 4096) (h7 : a7 = srcR L (q + 7) 4096)
  (hz : z = nf a5 a6 a7) (h8 : a8 = srcS L (q + 8) 60) (h9 : a9 = srcR L (q + 9) 90) (hb : b0 = srcR L (q + 10) 24) (h1 : ¬ b0 = 1) :
  cnsOf nf L m (k + 1) = (l ++ [⟨a0, a1, ⟨(a2 * 65536).tdiv 2, a3 * 65536, (a4 * 65536).tdiv 2⟩, z, a8 * 65536, a8 * 65536 + a9 * 65536⟩], q + 11) := by
 subst h0 ha h2 h3 h4 h5 h6 h7 hz h8 h9
 simp only [cnsOf, h, cnOf, ← hb, h1, if_false]
end
end Go.Sx
namespace Go.Proofs.YtmbnpjpggccefaaGreat
open Go.Rx Rt Go.Sx Go.RowKit
def andI (k : IntKind) (x y : Int) : Int := k.wrap ((BitVec.ofInt k.bits x &&& BitVec.ofInt k.bits y).toNat)
theorem qZU {β γ : Type} {F : β → γ} {c : Bool} {a b : γ} {f g : β} (h1 : a = F f) (h2 : b = F g) : (bif c then a else b) = F (bif c then f else g) := by cases c <;> assumption
noncomputable def o_mRound : List PV → Option (Bool × Ret) := fun ps => match ps with
 | [.n .i64 n, .n .i64 k] => some (decide (0 < k ∧ k ≤ 9223372036854775807), .v (.n .i64 (n % k)))
 | _ => none
theorem ok_mRound : OneOk Tryz.prog 15 o_mRound := by
 intro ps r h
 unfold o_mRound at h
 split at h
 ·simp only [Option.some.injEq, Prod.mk.injEq] at h
  obtain ⟨hg, rfl⟩ := h
  exact yJ (zZ Tryz.func15 (by kernel_rfl) (by kernel_rfl)) rfl rfl (fun w => mRound _ _ (of_decide_eq_true hg) w)
 ·cases h
noncomputable def L1 : OrL := (15, o_mRound) :: ([] : OrL)
theorem zYU : AllP (fun x : Nat × (List PV → Option (Bool × Ret)) => OneOk Tryz.prog x.1 x.2) L1 := ⟨ok_mRound, trivial⟩
set_option maxRecDepth 100000 in
theorem tr_rUsable (x : Int) (y : Int) (z : Int) : runK T (OrL.k L1) 60 47 [.a [.n .i64 x, .n .i64 y, .n .i64 z]] =
 bif (!((decide (x = 0)) && ((decide (y = 0)) && ((decide (z = 0)) && true)))) then (bif (decide (x < (-16384))) then some (.v (.b false), [])
  else bif (decide (16384 < x)) then some (.v (.b false), [])
  else bif (decide (y < (-16384))) then some (.v (.b false), [])
  else bif (decide (16384 < y)) then some (.v (.b false), [])
  else bif (decide (z < (-16384))) then some (.v (.b false), [])
  else bif (decide (16384 < z)) then some (.v (.b false), [])
  else some (.v (.b true), []))
 else some (.v (.b false), []) := by kernel_rfl
noncomputable def rUse (x y z : Int) : Bool := (bif (!((decide (x = 0)) && ((decide (y = 0)) && ((decide (z = 0)) && true)))) then (bif (decide (x < (-16384))) then false else (bif (decide (16384 < x)) then false else (bif (decide (y < (-16384))) then false else (bif (decide (16384 < y)) then false else (bif (decide (z < (-16384))) then false else (bif (decide (16384 < z)) then false else true)))))) else false)
def qVY : Bool → Option (Ret × Mem) := fun v => some (.v (.b v), [])
theorem sp_rUsable (x y z : Int) : runK T (OrL.k L1) 60 47 [.a [.n .i64 x, .n .i64 y, .n .i64 z]] = some (.v (.b (rUse x y z)), []) := by
 rw [tr_rUsable]
 exact ((qZU (F := qVY) (qZU (F := qVY) rfl (qZU (F := qVY) rfl (qZU (F := qVY) rfl (qZU (F := qVY) rfl (qZU (F := qVY) rfl (qZU (F := qVY) rfl rfl)))))) rfl) : _ = qVY (rUse x y z))
noncomputable def o_rUsable : List PV → Option (Bool × Ret) := fun ps => match ps with
 | [.a z'] => (z3D z').bind fun z => some (true, .v (.b (rUse z.x z.y z.z)))
 | _ => none
theorem ok_rUsable : OneOk Tryz.prog 47 o_rUsable := by
 intro ps r h
 unfold o_rUsable at h
 split at h
 ·simp only [Option.bind_eq_some_iff, Option.some.injEq, Prod.mk.injEq] at h
  obtain ⟨z, hz, hg, rfl⟩ := h
  rw [z3D_eq hz]
  exact yV tabOk mixed (OrL.ok zYU) (sp_rUsable _ _ _)
 ·cases h
noncomputable def L2 : OrL := (47, o_rUsable) :: L1
theorem zYJ : AllP (fun x : Nat × (List PV → Option (Bool × Ret)) => OneOk Tryz.prog x.1 x.2) L2 := ⟨ok_rUsable, zYU⟩
set_option maxRecDepth 100000 in
theorem tr_mNormal (a : Int) (b : Int) (c : Int) : runK T (OrL.k L2) 60 42 [.n .i64 a, .n .i64 b, .n .i64 c] =
 bif (decide ((andI .i64 a 8) = 8)) then (bif rUse (Z3.mk (IntKind.i64.wrap (a % 32769 - 16384)) (IntKind.i64.wrap (b % 32769 - 16384)) (IntKind.i64.wrap (c % 32769 - 16384))).x (Z3.mk (IntKind.i64.wrap (a % 32769 - 16384)) (IntKind.i64.wrap (b % 32769 - 16384)) (IntKind.i64.wrap (c % 32769 - 16384))).y (Z3.mk (IntKind.i64.wrap (a % 32769 - 16384)) (IntKind.i64.wrap (b % 32769 - 16384)) (IntKind.i64.wrap (c % 32769 - 16384))).z then some (.v (.a [.n .i64 (IntKind.i64.wrap (a % 32769 - 16384)), .n .i64 (IntKind.i64.wrap (b % 32769 - 16384)), .n .i64 (IntKind.i64.wrap (c % 32769 - 16384))]), [])
  else some (.v (.a [.n .i64 1, .n .i64 0, .n .i64 0]), []))
 else bif rUse (Z3.mk (IntKind.i64.wrap (a % 41 - 20)) (IntKind.i64.wrap (b % 41 - 20)) (IntKind.i64.wrap (c % 41 - 20))).x (Z3.mk (IntKind.i64.wrap (a % 41 - 20)) (IntKind.i64.wrap (b % 41 - 20)) (IntKind.i64.wrap (c % 41 - 20))).y (Z3.mk (IntKind.i64.wrap (a % 41 - 20)) (IntKind.i64.wrap (b % 41 - 20)) (IntKind.i64.wrap (c % 41 - 20))).z then some (.v (.a [.n .i64 (IntKind.i64.wrap (a % 41 - 20)), .n .i64 (IntKind.i64.wrap (b % 41 - 20)), .n .i64 (IntKind.i64.wrap (c % 41 - 20))]), [])
 else some (.v (.a [.n .i64 1, .n .i64 0, .n .i64 0]), []) := by kernel_rfl
noncomputable def nrm (a b c : Int) : Z3 := (bif (decide ((andI .i64 a 8) = 8)) then (bif rUse (Z3.mk (IntKind.i64.wrap (a % 32769 - 16384)) (IntKind.i64.wrap (b % 32769 - 16384)) (IntKind.i64.wrap (c % 32769 - 16384))).x (Z3.mk (IntKind.i64.wrap (a % 32769 - 16384)) (IntKind.i64.wrap (b % 32769 - 16384)) (IntKind.i64.wrap (c % 32769 - 16384))).y (Z3.mk (IntKind.i64.wrap (a % 32769 - 16384)) (IntKind.i64.wrap (b % 32769 - 16384)) (IntKind.i64.wrap (c % 32769 - 16384))).z then (Z3.mk (IntKind.i64.wrap (a % 32769 - 16384)) (IntKind.i64.wrap (b % 32769 - 16384)) (IntKind.i64.wrap (c % 32769 - 16384))) else (Z3.mk 1 0 0)) else (bif rUse (Z3.mk (IntKind.i64.wrap (a % 41 - 20)) (IntKind.i64.wrap (b % 41 - 20)) (IntKind.i64.wrap (c % 41 - 20))).x (Z3.mk (IntKind.i64.wrap (a % 41 - 20)) (IntKind.i64.wrap (b % 41 - 20)) (IntKind.i64.wrap (c % 41 - 20))).y (Z3.mk (IntKind.i64.wrap (a % 41 - 20)) (IntKind.i64.wrap (b % 41 - 20)) (IntKind.i64.wrap (c % 41 - 20))).z then (Z3.mk (IntKind.i64.wrap (a % 41 - 20)) (IntKind.i64.wrap (b % 41 - 20)) (IntKind.i64.wrap (c % 41 - 20))) else (Z3.mk 1 0 0)))
def F_mNormal : Z3 → Option (Ret × Mem) := fun v => some (.v (.a (z3C v)), [])
theorem sp_mNormal (a b c : Int) : runK T (OrL.k L2) 60 42 [.n .i64 a, .n .i64 b, .n .i64 c] = some (.v (.a (z3C (nrm a b c))), []) := by
 rw [tr_mNormal]
 exact ((qZU (F := F_mNormal) (qZU (F := F_mNormal) rfl rfl) (qZU (F := F_mNormal) rfl rfl)) : _ = F_mNormal (nrm a b c))
noncomputable def o_mNormal : List PV → Option (Bool × Ret) := fun ps => match ps with
 | [.n .i64 a, .n .i64 b, .n .i64 c] => some (true, .v (.a (z3C (nrm a b c))))
 | _ => none
theorem ok_mNormal : OneOk Tryz.prog 42 o_mNormal := by
 intro ps r h
 unfold o_mNormal at h
 split at h
 ·simp only [Option.some.injEq, Prod.mk.injEq] at h
  obtain ⟨hg, rfl⟩ := h
  exact yV tabOk mixed (OrL.ok zYJ) (sp_mNormal _ _ _)
 ·cases h
noncomputable def L3 : OrL := (42, o_mNormal) :: L2
theorem L3_ok : AllP (fun x : Nat × (List PV → Option (Bool × Ret)) => OneOk Tryz.prog x.1 x.2) L3 := ⟨ok_mNormal, zYJ⟩
theorem mNormal2 (a b c : Int) (w : World) : Calls Tryz.prog 42 [.int .i64 a, .int .i64 b, .int .i64 c].toArray w (Rets (z3 (nrm a b c)) w) := uY (yV tabOk mixed (OrL.ok zYJ) (sp_mNormal a b c)) rfl rfl w
end Go.Proofs.YtmbnpjpggccefaaGreat

/- Plain laws of sine and cosine: quadrants, symmetry, the circle, ranges. No condition. -/
import Derived.Test.YtonampcmhhhffaaVAngLaw
namespace Go.Sx

theorem first_0 : firstI 0 = ⟨0, 0⟩ := by kernel_rfl
theorem first_q : firstI 16384 = ⟨65536, 65536⟩ := by kernel_rfl
theorem neg_mk {x y : Int} (h : -2147483648 ≤ x ∧ x ≤ y ∧ y ≤ 2147483648) : Iv.neg ⟨x, y⟩ = ⟨-y, -x⟩ := by
  have : Iv.valid ⟨x, y⟩ = true := by simp [Iv.valid]; omega
  simp [Iv.neg, this]
theorem neg_of {a : Iv} (h : -2147483648 ≤ a.lo ∧ a.lo ≤ a.hi ∧ a.hi ≤ 2147483648) : Iv.neg a = ⟨-a.hi, -a.lo⟩ := neg_mk (x := a.lo) (y := a.hi) h
theorem valid_of {a : Iv} (h : -2147483648 ≤ a.lo ∧ a.lo ≤ a.hi ∧ a.hi ≤ 2147483648) : a.valid = true := by simp [Iv.valid]; omega
theorem neg_first {r : Int} (h : 0 ≤ r ∧ r ≤ 16384) : Iv.neg (firstI r) = ⟨-(firstI r).hi, -(firstI r).lo⟩ := by
  have := first_facts h
  exact neg_of (by omega)
theorem neg_neg {a : Iv} (h : -2147483648 ≤ a.lo ∧ a.lo ≤ a.hi ∧ a.hi ≤ 2147483648) : Iv.neg (Iv.neg a) = a := by
  rw [neg_of h, neg_mk (by omega), Int.neg_neg, Int.neg_neg]

theorem sin_q0 {n m : Int} (hm : n % 65536 = m) (h : 0 ≤ m ∧ m ≤ 16384) : sinI n = firstI m := by
  rw [← sin_first h]
  unfold sinI
  rw [hm, show m % 65536 = m by omega]
theorem sin_q1 {n m : Int} (hm : n % 65536 = m) (h : 16384 ≤ m ∧ m ≤ 32768) : sinI n = firstI (32768 - m) := by
  unfold sinI sinM
  rw [hm, decide_eq_false (show ¬ m / 16384 = 0 by omega)]
  by_cases h1 : m = 32768
  · subst h1
    rw [show (32768 : Int) - 32768 = 0 from rfl, first_0]
    kernel_rfl
  · rw [decide_eq_true (show m / 16384 = 1 by omega), show 16384 - m % 16384 = 32768 - m by omega]
    rfl
theorem sin_q2 {n m : Int} (hm : n % 65536 = m) (h : 32768 ≤ m ∧ m ≤ 49152) : sinI n = Iv.neg (firstI (m - 32768)) := by
  unfold sinI sinM
  rw [hm, decide_eq_false (show ¬ m / 16384 = 0 by omega), decide_eq_false (show ¬ m / 16384 = 1 by omega)]
  by_cases h1 : m = 49152
  · subst h1
    rfl
  · rw [decide_eq_true (show m / 16384 = 2 by omega), show m % 16384 = m - 32768 by omega]
    rfl
theorem sin_q3 {n m : Int} (hm : n % 65536 = m) (h : 49152 ≤ m ∧ m < 65536) : sinI n = Iv.neg (firstI (65536 - m)) := by
  unfold sinI sinM
  rw [hm, decide_eq_false (show ¬ m / 16384 = 0 by omega), decide_eq_false (show ¬ m / 16384 = 1 by omega), decide_eq_false (show ¬ m / 16384 = 2 by omega), show 16384 - m % 16384 = 65536 - m by omega]
  rfl
theorem sin_per {a b : Int} (h : a % 65536 = b % 65536) : sinI a = sinI b := by unfold sinI; rw [h]
theorem cos_sin (a : Int) : cosI a = sinI (a + 16384) := by unfold cosI; exact sin_per (by omega)
theorem quad (n : Int) : (0 ≤ n % 65536 ∧ n % 65536 ≤ 16384) ∨ (16384 ≤ n % 65536 ∧ n % 65536 ≤ 32768) ∨ (32768 ≤ n % 65536 ∧ n % 65536 ≤ 49152) ∨ (49152 ≤ n % 65536 ∧ n % 65536 < 65536) := by omega

theorem sin_bnd (n : Int) : -65536 ≤ (sinI n).lo ∧ (sinI n).lo ≤ (sinI n).hi ∧ (sinI n).hi ≤ 65536 ∧ (sinI n).hi ≤ (sinI n).lo + 2 := by
  rcases quad n with h | h | h | h
  · rw [sin_q0 rfl h]; have := first_facts h; omega
  · rw [sin_q1 rfl h]; have := first_facts (r := 32768 - n % 65536) (by omega); omega
  · rw [sin_q2 rfl h, neg_first (by omega)]; have := first_facts (r := n % 65536 - 32768) (by omega); simp only; omega
  · rw [sin_q3 rfl h, neg_first (by omega)]; have := first_facts (r := 65536 - n % 65536) (by omega); simp only; omega
theorem sin_neg (a : Int) : sinI (-a) = Iv.neg (sinI a) := by
  rcases quad a with h | h | h | h
  · rw [sin_q0 rfl h]
    by_cases h0 : a % 65536 = 0
    · rw [h0, sin_q0 (m := 0) (by omega) (by omega), first_0, neg_mk (by omega)]; rfl
    · rw [sin_q3 (m := 65536 - a % 65536) (by omega) (by omega)]
      congr 2; omega
  · rw [sin_q1 rfl h, sin_q2 (m := 65536 - a % 65536) (by omega) (by omega)]
    congr 2; omega
  · rw [sin_q2 rfl h, sin_q1 (m := 65536 - a % 65536) (by omega) (by omega), neg_neg (by have := first_facts (r := a % 65536 - 32768) (by omega); omega)]
    congr 1; omega
  · rw [sin_q3 rfl h, sin_q0 (m := 65536 - a % 65536) (by omega) (by omega), neg_neg (by have := first_facts (r := 65536 - a % 65536) (by omega); omega)]
theorem sin_half (a : Int) : sinI (32768 - a) = sinI a := by
  rcases quad a with h | h | h | h
  · rw [sin_q0 rfl h, sin_q1 (m := 32768 - a % 65536) (by omega) (by omega)]
    congr 1; omega
  · rw [sin_q1 rfl h, sin_q0 (m := 32768 - a % 65536) (by omega) (by omega)]
  · rw [sin_q2 rfl h]
    by_cases h0 : a % 65536 = 32768
    · rw [h0, sin_q0 (m := 0) (by omega) (by omega), show (32768 : Int) - 32768 = 0 from rfl, first_0, neg_mk (by omega)]; rfl
    · rw [sin_q3 (m := 98304 - a % 65536) (by omega) (by omega)]
      congr 2; omega
  · rw [sin_q3 rfl h, sin_q2 (m := 98304 - a % 65536) (by omega) (by omega)]
    congr 2; omega
theorem sin_turn (a : Int) : sinI (a + 65536) = sinI a := sin_per (by omega)
theorem cos_turn (a : Int) : cosI (a - 65536) = cosI a := by rw [cos_sin, cos_sin]; exact sin_per (by omega)
theorem cos_even (a : Int) : cosI (-a) = cosI a := by
  rw [cos_sin, cos_sin, ← sin_half (a + 16384)]; exact congrArg sinI (by omega)
theorem sin_opp (a : Int) : sinI (a + 32768) = Iv.neg (sinI a) := by
  rw [← sin_neg, ← sin_half (-a)]; exact congrArg sinI (by omega)
theorem cos_quarter (a : Int) : cosI a = sinI (16384 - a) := by
  rw [cos_sin, ← sin_half (16384 - a)]; exact congrArg sinI (by omega)

/-! ### the circle -/
theorem square_pos {l h : Int} (h0 : 0 ≤ l ∧ l ≤ h ∧ h ≤ 65536) : Iv.square ⟨l, h⟩ = ⟨l * l / 65536, ceilI (h * h) 65536⟩ ∧ Iv.square ⟨-h, -l⟩ = ⟨l * l / 65536, ceilI (h * h) 65536⟩ := by
  have v1 : Iv.valid ⟨l, h⟩ = true := valid_of (by simp only; omega)
  have v2 : Iv.valid ⟨-h, -l⟩ = true := valid_of (by simp only; omega)
  have hll : l * l ≤ h * h := Int.mul_le_mul h0.2.1 h0.2.1 h0.1 (by omega)
  have hl0 : 0 ≤ l * l := Int.mul_nonneg h0.1 h0.1
  have hh0 : h * h ≤ 65536 * 65536 := Int.mul_le_mul h0.2.2 h0.2.2 (by omega) (by decide)
  have hc := ceil_spec (a := h * h) (b := 65536) (by decide)
  have c1 : clampI (l * l / 65536) = l * l / 65536 := clampI_id (by omega)
  have c2 : clampI (ceilI (h * h) 65536) = ceilI (h * h) 65536 := clampI_id (by omega)
  have e1 : -h * -h = h * h := by rw [Int.neg_mul_neg]
  have e2 : -l * -l = l * l := by rw [Int.neg_mul_neg]
  constructor
  · simp only [Iv.square, v1, cond_true, Iv.hasZero]
    rw [show max (l * l) (h * h) = h * h by omega, show min (l * l) (h * h) = l * l by omega, c2]
    by_cases hz : l = 0
    · subst hz
      simp only [Int.le_refl, decide_true, Bool.true_and, show (0 : Int) ≤ h by omega, Int.neg_zero, show -h ≤ (0 : Int) by omega, cond_true, Int.zero_mul, Int.zero_ediv]
      exact congrArg (fun z => Iv.mk z _) (by decide)
    · rw [decide_eq_false (show ¬ l ≤ 0 by omega)]
      simp [c1]
  · simp only [Iv.square, v2, cond_true, Iv.hasZero, e1, e2]
    rw [show max (h * h) (l * l) = h * h by omega, show min (h * h) (l * l) = l * l by omega, c2]
    by_cases hz : l = 0
    · subst hz
      simp only [Int.le_refl, decide_true, Bool.true_and, show (0 : Int) ≤ h by omega, Int.neg_zero, show -h ≤ (0 : Int) by omega, cond_true, Int.zero_mul, Int.zero_ediv]
      exact congrArg (fun z => Iv.mk z _) (by decide)
    · rw [decide_eq_false (show ¬ (0 : Int) ≤ -l by omega)]
      simp [c1]
theorem circle_first {r : Int} (h : 0 ≤ r ∧ r ≤ 16384) : Iv.has (Iv.add (Iv.square (firstI r)) (Iv.square (firstI (16384 - r)))) 65536 = true := by
  have f1 := first_facts h
  have f2 := first_facts (r := 16384 - r) (by omega)
  have hc := circle (r := r.toNat) (by omega)
  have e1 := first_at h
  have e2 := first_at (r := 16384 - r) (by omega)
  rw [show (16384 - r).toNat = 16384 - r.toNat by omega] at e2
  rw [e1] at f1 ⊢
  rw [e2] at f2 ⊢
  generalize fLo r.toNat = a at *
  generalize fHi r.toNat = b at *
  generalize fLo (16384 - r.toNat) = c at *
  generalize fHi (16384 - r.toNat) = d at *
  simp only at f1 f2
  rw [(square_pos (l := (a : Int)) (h := (b : Int)) (by omega)).1, (square_pos (l := (c : Int)) (h := (d : Int)) (by omega)).1]
  have k1 := ceil_nat (a := b * b) (b := 65536) (by decide)
  have k2 := ceil_nat (a := d * d) (b := 65536) (by decide)
  simp only [cN] at k1 k2
  rw [show ((65536 : Nat) : Int) = 65536 from rfl] at k1 k2
  rw [show (b : Int) * b = ((b * b : Nat) : Int) by simp, show (d : Int) * d = ((d * d : Nat) : Int) by simp, show (a : Int) * a = ((a * a : Nat) : Int) by simp, show (c : Int) * c = ((c * c : Nat) : Int) by simp, k1, k2]
  have gba : a * a ≤ 65536 * 65536 := Nat.mul_le_mul (by omega) (by omega)
  have gbb : b * b ≤ 65536 * 65536 := Nat.mul_le_mul (by omega) (by omega)
  have gbc : c * c ≤ 65536 * 65536 := Nat.mul_le_mul (by omega) (by omega)
  have gbd : d * d ≤ 65536 * 65536 := Nat.mul_le_mul (by omega) (by omega)
  have ab : a * a ≤ b * b := Nat.mul_le_mul (by omega) (by omega)
  have cd : c * c ≤ d * d := Nat.mul_le_mul (by omega) (by omega)
  generalize a * a = aa at *
  generalize b * b = bb at *
  generalize c * c = cc at *
  generalize d * d = dd at *
  have v1 : Iv.valid ⟨((aa : Nat) : Int) / 65536, (((bb + (65536 - 1)) / 65536 : Nat) : Int)⟩ = true := valid_of (by simp only; omega)
  have v2 : Iv.valid ⟨((cc : Nat) : Int) / 65536, (((dd + (65536 - 1)) / 65536 : Nat) : Int)⟩ = true := valid_of (by simp only; omega)
  simp only [Iv.add, v1, v2, Bool.and_self, cond_true]
  rw [clampI_id (by omega), clampI_id (by omega)]
  have v3 : Iv.valid ⟨((aa : Nat) : Int) / 65536 + ((cc : Nat) : Int) / 65536, (((bb + (65536 - 1)) / 65536 : Nat) : Int) + (((dd + (65536 - 1)) / 65536 : Nat) : Int)⟩ = true := valid_of (by simp only; omega)
  simp only [Iv.has, v3, Bool.true_and, Bool.and_eq_true, decide_eq_true_eq]
  omega
theorem square_neg {r : Int} (h : 0 ≤ r ∧ r ≤ 16384) : Iv.square (Iv.neg (firstI r)) = Iv.square (firstI r) := by
  have f := first_facts h
  rw [neg_first h, (square_pos (l := (firstI r).lo) (h := (firstI r).hi) (by omega)).2, ← (square_pos (l := (firstI r).lo) (h := (firstI r).hi) (by omega)).1]
theorem add_comm' (a b : Iv) : Iv.add a b = Iv.add b a := by
  simp only [Iv.add, Bool.and_comm]
  rw [Int.add_comm a.lo, Int.add_comm a.hi]
theorem circle_all (a : Int) : Iv.has (Iv.add (Iv.square (sinI a)) (Iv.square (cosI a))) 65536 = true := by
  rw [cos_sin]
  rcases quad a with h | h | h | h
  · rw [sin_q0 rfl h, sin_q1 (m := a % 65536 + 16384) (by omega) (by omega), show 32768 - (a % 65536 + 16384) = 16384 - a % 65536 by omega]
    exact circle_first h
  · rw [sin_q1 rfl h, sin_q2 (m := a % 65536 + 16384) (by omega) (by omega), square_neg (by omega), show a % 65536 + 16384 - 32768 = 16384 - (32768 - a % 65536) by omega]
    exact circle_first (by omega)
  · rw [sin_q2 rfl h, square_neg (by omega)]
    by_cases h0 : a % 65536 = 49152
    · rw [sin_q0 (n := a + 16384) (m := 0) (by omega) (by omega), h0, show (0 : Int) = 16384 - (49152 - 32768) from rfl]
      exact circle_first (by omega)
    · rw [sin_q3 (m := a % 65536 + 16384) (by omega) (by omega), square_neg (by omega), show 65536 - (a % 65536 + 16384) = 16384 - (a % 65536 - 32768) by omega]
      exact circle_first (by omega)
  · rw [sin_q3 rfl h, square_neg (by omega), sin_q0 (m := a % 65536 - 49152) (by omega) (by omega), show a % 65536 - 49152 = 16384 - (65536 - a % 65536) by omega]
    exact circle_first (by omega)

/-! ### ranges -/
theorem step_up_sin {n : Int} (h : n % 65536 < 16384 ∨ 49152 ≤ n % 65536) : (sinI n).lo ≤ (sinI (n + 1)).lo ∧ (sinI n).hi ≤ (sinI (n + 1)).hi := by
  rcases h with h | h
  · rw [sin_q0 (n := n) rfl (by omega), sin_q0 (n := n + 1) (m := n % 65536 + 1) (by omega) (by omega)]
    exact first_mono1 (by omega)
  · rw [sin_q3 (n := n) rfl (by omega), neg_first (by omega)]
    by_cases h0 : n % 65536 = 65535
    · rw [sin_q0 (n := n + 1) (m := 0) (by omega) (by omega), first_0]
      have := first_facts (r := 65536 - n % 65536) (by omega)
      simp only; omega
    · rw [sin_q3 (n := n + 1) (m := n % 65536 + 1) (by omega) (by omega), neg_first (by omega)]
      have := first_mono1 (r := 65536 - (n % 65536 + 1)) (by omega)
      rw [show 65536 - (n % 65536 + 1) + 1 = 65536 - n % 65536 by omega] at this
      simp only; omega
theorem step_dn_sin {n : Int} (h : 16384 ≤ n % 65536 ∧ n % 65536 < 49152) : (sinI (n + 1)).lo ≤ (sinI n).lo ∧ (sinI (n + 1)).hi ≤ (sinI n).hi := by
  have h1 := step_up_sin (n := 32768 - (n + 1)) (by omega)
  rw [sin_half, show 32768 - (n + 1) + 1 = 32768 - n by omega, sin_half] at h1
  exact h1
theorem chain_up (k : Nat) : ∀ m : Int, (∀ j : Int, m ≤ j → j < m + k → (j % 65536 < 16384 ∨ 49152 ≤ j % 65536)) → (sinI m).lo ≤ (sinI (m + k)).lo ∧ (sinI m).hi ≤ (sinI (m + k)).hi := by
  induction k with
  | zero => intro m _; simp
  | succ k ih =>
    intro m h
    have h1 := ih m (fun j a b => h j a (by omega))
    have h2 := step_up_sin (n := m + k) (h _ (by omega) (by omega))
    rw [show m + ((k + 1 : Nat) : Int) = m + k + 1 by omega]
    omega
theorem chain_dn (k : Nat) : ∀ m : Int, (∀ j : Int, m ≤ j → j < m + k → (16384 ≤ j % 65536 ∧ j % 65536 < 49152)) → (sinI (m + k)).lo ≤ (sinI m).lo ∧ (sinI (m + k)).hi ≤ (sinI m).hi := by
  induction k with
  | zero => intro m _; simp
  | succ k ih =>
    intro m h
    have h1 := ih m (fun j a b => h j a (by omega))
    have h2 := step_dn_sin (n := m + k) (h _ (by omega) (by omega))
    rw [show m + ((k + 1 : Nat) : Int) = m + k + 1 by omega]
    omega
theorem up_to {m n : Int} (h : m ≤ n) (hj : ∀ j : Int, m ≤ j → j < n → (j % 65536 < 16384 ∨ 49152 ≤ j % 65536)) : (sinI m).lo ≤ (sinI n).lo ∧ (sinI m).hi ≤ (sinI n).hi := by
  have := chain_up (n - m).toNat m (fun j a b => hj j a (by omega))
  rwa [show m + ((n - m).toNat : Int) = n by omega] at this
theorem dn_to {m n : Int} (h : m ≤ n) (hj : ∀ j : Int, m ≤ j → j < n → (16384 ≤ j % 65536 ∧ j % 65536 < 49152)) : (sinI n).lo ≤ (sinI m).lo ∧ (sinI n).hi ≤ (sinI m).hi := by
  have := chain_dn (n - m).toNat m (fun j a b => hj j a (by omega))
  rwa [show m + ((n - m).toNat : Int) = n by omega] at this

/-- the upper end within lo..hi is at one of the ends, or the top is met -/
theorem upper {lo hi n : Int} (h1 : lo ≤ n) (h2 : n ≤ hi) : (sinI n).hi ≤ (sinI lo).hi ∨ (sinI n).hi ≤ (sinI hi).hi ∨ lo + (16384 - lo) % 65536 ≤ hi := by
  rcases Int.lt_or_le hi (lo + (16384 - lo) % 65536) with h | h
  · by_cases hp : n % 65536 < 16384 ∨ 49152 ≤ n % 65536
    · exact .inr (.inl (up_to h2 (fun j a b => by omega)).2)
    · exact .inl (dn_to h1 (fun j a b => by omega)).2
  · exact .inr (.inr h)
theorem lower {lo hi n : Int} (h1 : lo ≤ n) (h2 : n ≤ hi) : (sinI lo).lo ≤ (sinI n).lo ∨ (sinI hi).lo ≤ (sinI n).lo ∨ lo + (49152 - lo) % 65536 ≤ hi := by
  rcases Int.lt_or_le hi (lo + (49152 - lo) % 65536) with h | h
  · by_cases hp : n % 65536 < 16384 ∨ 49152 ≤ n % 65536
    · exact .inl (up_to h1 (fun j a b => by omega)).1
    · exact .inr (.inl (dn_to h2 (fun j a b => by omega)).1)
  · exact .inr (.inr h)
end Go.Sx

/- Points near the circle for every angle; intervals that hold a scaled number. No condition. -/
import Derived.Test.YtonampcmhhhffaaVUnit2
namespace Go.Sx

/-- the sine of the point for the angle n, times 2^128 -/
def PS (n : Int) : Int := if n % 65536 / 16384 = 0 then WT (n % 16384).toNat else if n % 65536 / 16384 = 1 then WC (n % 16384).toNat else if n % 65536 / 16384 = 2 then -WT (n % 16384).toNat else -WC (n % 16384).toNat
def PC (n : Int) : Int := PS (n + 16384)
theorem PS_per {a b : Int} (h : a % 65536 = b % 65536) : PS a = PS b := by
  unfold PS; rw [h, show a % 16384 = b % 16384 by omega]
theorem PS_opp (n : Int) : PS (n + 32768) = -PS n := by
  unfold PS
  rw [show (n + 32768) % 16384 = n % 16384 by omega]
  have h : n % 65536 / 16384 = 0 ∨ n % 65536 / 16384 = 1 ∨ n % 65536 / 16384 = 2 ∨ n % 65536 / 16384 = 3 := by omega
  rcases h with h | h | h | h
  · rw [h, show (n + 32768) % 65536 / 16384 = 2 by omega]; simp
  · rw [h, show (n + 32768) % 65536 / 16384 = 3 by omega]; simp
  · rw [h, show (n + 32768) % 65536 / 16384 = 0 by omega]; simp
  · rw [h, show (n + 32768) % 65536 / 16384 = 1 by omega]; simp
theorem PS_next (n : Int) : PS (n + 16384) = PC n := rfl
theorem PC_next (n : Int) : PC (n + 16384) = -PS n := by unfold PC; rw [← PS_opp]; congr 1; omega
theorem PC_per {a b : Int} (h : a % 65536 = b % 65536) : PC a = PC b := PS_per (by omega)
theorem PS_base {r : Nat} (h : r < 16384) : PS (r : Int) = WT r ∧ PC (r : Int) = WC r := by
  unfold PC PS
  rw [show (r : Int) % 65536 / 16384 = 0 by omega, show ((r : Int) + 16384) % 65536 / 16384 = 1 by omega, show ((r : Int) % 16384).toNat = r by omega, show (((r : Int) + 16384) % 16384).toNat = r by omega]
  simp
theorem PS_bnd (n : Int) : -(340282366920938463463374607431768211456 : Int) ≤ PS n ∧ PS n ≤ (340282366920938463463374607431768211456 : Int) := by
  have b := wbnd (r := (n % 16384).toNat) (by omega)
  unfold PS
  split <;> (try split) <;> (try split) <;> omega
theorem PC_bnd (n : Int) : -(340282366920938463463374607431768211456 : Int) ≤ PC n ∧ PC n ≤ (340282366920938463463374607431768211456 : Int) := PS_bnd _

def FF (a b : Int) : Int := PC a * PS b + PS a * PC b - (340282366920938463463374607431768211456 : Int) * PS (a + b)
def GG (a b : Int) : Int := PC a * PC b - PS a * PS b - (340282366920938463463374607431768211456 : Int) * PC (a + b)
def Near (a b : Int) : Prop := (-((1099511627776 : Int) * (340282366920938463463374607431768211456 : Int)) ≤ FF a b ∧ FF a b ≤ (1099511627776 : Int) * (340282366920938463463374607431768211456 : Int)) ∧ (-((1099511627776 : Int) * (340282366920938463463374607431768211456 : Int)) ≤ GG a b ∧ GG a b ≤ (1099511627776 : Int) * (340282366920938463463374607431768211456 : Int))
theorem near_a {a b : Int} (h : Near a b) : Near (a + 16384) b := by
  have e1 : FF (a + 16384) b = GG a b := by
    unfold FF GG; rw [PC_next, PS_next, show a + 16384 + b = a + b + 16384 by omega, PS_next, Int.neg_mul]; omega
  have e2 : GG (a + 16384) b = -FF a b := by
    unfold FF GG; rw [PC_next, PS_next, show a + 16384 + b = a + b + 16384 by omega, PC_next, Int.neg_mul]; omega
  unfold Near at *; rw [e1, e2]; omega
theorem near_b {a b : Int} (h : Near a b) : Near a (b + 16384) := by
  have e1 : FF a (b + 16384) = GG a b := by
    unfold FF GG; rw [PC_next, PS_next, show a + (b + 16384) = a + b + 16384 by omega, PS_next, Int.mul_neg]; omega
  have e2 : GG a (b + 16384) = -FF a b := by
    unfold FF GG; rw [PC_next, PS_next, show a + (b + 16384) = a + b + 16384 by omega, PC_next, Int.mul_neg]; omega
  unfold Near at *; rw [e1, e2]; omega
theorem near_base {a b : Nat} (ha : a < 16384) (hb : b < 16384) : Near a b := by
  unfold Near FF GG
  rw [(PS_base ha).1, (PS_base ha).2, (PS_base hb).1, (PS_base hb).2]
  rcases Nat.lt_or_ge (a + b) 16384 with h | h
  · have := add_sym (a := a) (b := b) (by omega)
    rw [show (a : Int) + b = ((a + b : Nat) : Int) by omega, (PS_base h).1, (PS_base h).2]
    omega
  · have := add_over (a := a) (b := b) (by omega) (by omega) h
    have e := PS_base (r := a + b - 16384) (by omega)
    rw [show (a : Int) + b = ((a + b - 16384 : Nat) : Int) + 16384 by omega, PS_next, PC_next, e.1, e.2]
    omega
theorem near_q {a : Int} (P : Int → Prop) (step : ∀ a, P a → P (a + 16384)) (per : ∀ a b, a % 65536 = b % 65536 → P a → P b) (h : P (a % 16384)) : P a := by
  have hq : a % 65536 = a % 16384 ∨ a % 65536 = a % 16384 + 16384 ∨ a % 65536 = a % 16384 + 16384 + 16384 ∨ a % 65536 = a % 16384 + 16384 + 16384 + 16384 := by omega
  rcases hq with e | e | e | e
  · exact per (a % 16384) a (by omega) h
  · exact per (a % 16384 + 16384) a (by omega) (step _ h)
  · exact per (a % 16384 + 16384 + 16384) a (by omega) (step _ (step _ h))
  · exact per (a % 16384 + 16384 + 16384 + 16384) a (by omega) (step _ (step _ (step _ h)))
theorem near (a b : Int) : Near a b := by
  refine near_q (fun a => Near a b) (fun _ h => near_a h) (fun x y e h => ?_) ?_
  · unfold Near FF GG at *
    rw [← PS_per e, ← PC_per e, ← PS_per (show (x + b) % 65536 = (y + b) % 65536 by omega), ← PC_per (show (x + b) % 65536 = (y + b) % 65536 by omega)]; exact h
  · refine near_q (fun b => Near (a % 16384) b) (fun _ h => near_b h) (fun x y e h => ?_) ?_
    · unfold Near FF GG at *
      rw [← PS_per e, ← PC_per e, ← PS_per (show (a % 16384 + x) % 65536 = (a % 16384 + y) % 65536 by omega), ← PC_per (show (a % 16384 + x) % 65536 = (a % 16384 + y) % 65536 by omega)]; exact h
    · have := near_base (a := (a % 16384).toNat) (b := (b % 16384).toNat) (by omega) (by omega)
      rwa [show ((a % 16384).toNat : Int) = a % 16384 by omega, show ((b % 16384).toNat : Int) = b % 16384 by omega] at this

/-! ### an interval that holds the number x / m -/
structure In (I : Iv) (m x : Int) : Prop where
  lo : I.lo * m ≤ x
  hi : x ≤ I.hi * m
def Ok (a : Iv) : Prop := -2147483648 ≤ a.lo ∧ a.lo ≤ a.hi ∧ a.hi ≤ 2147483648
theorem bil {lo hi x : Int} (y : Int) (h1 : lo ≤ x) (h2 : x ≤ hi) : (lo * y ≤ x * y ∨ hi * y ≤ x * y) ∧ (x * y ≤ lo * y ∨ x * y ≤ hi * y) := by
  rcases Int.le_total 0 y with h | h
  · exact ⟨.inl (Int.mul_le_mul_of_nonneg_right h1 h), .inr (Int.mul_le_mul_of_nonneg_right h2 h)⟩
  · exact ⟨.inr (Int.mul_le_mul_of_nonpos_right h2 h), .inl (Int.mul_le_mul_of_nonpos_right h1 h)⟩
theorem clamp_lo {z M v : Int} (hM : 0 ≤ M) (h : z * M ≤ v) (hb : -2147483648 * M ≤ v) : clampI z * M ≤ v := by
  unfold clampI
  rcases Int.le_total z (-2147483648) with h1 | h1
  · rw [show min (max z (-2147483648)) 2147483648 = -2147483648 by omega]; exact hb
  · refine Int.le_trans (Int.mul_le_mul_of_nonneg_right ?_ hM) h
    omega
theorem clamp_hi {z M v : Int} (hM : 0 ≤ M) (h : v ≤ z * M) (hb : v ≤ 2147483648 * M) : v ≤ clampI z * M := by
  unfold clampI
  rcases Int.le_total 2147483648 z with h1 | h1
  · rw [show min (max z (-2147483648)) 2147483648 = 2147483648 by omega]; exact hb
  · refine Int.le_trans h (Int.mul_le_mul_of_nonneg_right ?_ hM)
    omega
theorem mul_prod {a b : Iv} {m k x y : Int} (hm : 0 ≤ m) (hk : 0 ≤ k) (hx : In a m x) (hy : In b k y) :
    min4 (a.lo * b.lo) (a.lo * b.hi) (a.hi * b.lo) (a.hi * b.hi) * (m * k) ≤ x * y ∧ x * y ≤ max4 (a.lo * b.lo) (a.lo * b.hi) (a.hi * b.lo) (a.hi * b.hi) * (m * k) := by
  have hmk : 0 ≤ m * k := Int.mul_nonneg hm hk
  have b1 := bil y hx.lo hx.hi
  have b2 := bil (a.lo * m) hy.lo hy.hi
  have b3 := bil (a.hi * m) hy.lo hy.hi
  rw [show b.lo * k * (a.lo * m) = a.lo * b.lo * (m * k) by grind, show b.hi * k * (a.lo * m) = a.lo * b.hi * (m * k) by grind, Int.mul_comm y] at b2
  rw [show b.lo * k * (a.hi * m) = a.hi * b.lo * (m * k) by grind, show b.hi * k * (a.hi * m) = a.hi * b.hi * (m * k) by grind, Int.mul_comm y] at b3
  have l1 : min4 (a.lo * b.lo) (a.lo * b.hi) (a.hi * b.lo) (a.hi * b.hi) * (m * k) ≤ a.lo * b.lo * (m * k) := Int.mul_le_mul_of_nonneg_right (by unfold min4; omega) hmk
  have l2 : min4 (a.lo * b.lo) (a.lo * b.hi) (a.hi * b.lo) (a.hi * b.hi) * (m * k) ≤ a.lo * b.hi * (m * k) := Int.mul_le_mul_of_nonneg_right (by unfold min4; omega) hmk
  have l3 : min4 (a.lo * b.lo) (a.lo * b.hi) (a.hi * b.lo) (a.hi * b.hi) * (m * k) ≤ a.hi * b.lo * (m * k) := Int.mul_le_mul_of_nonneg_right (by unfold min4; omega) hmk
  have l4 : min4 (a.lo * b.lo) (a.lo * b.hi) (a.hi * b.lo) (a.hi * b.hi) * (m * k) ≤ a.hi * b.hi * (m * k) := Int.mul_le_mul_of_nonneg_right (by unfold min4; omega) hmk
  have u1 : a.lo * b.lo * (m * k) ≤ max4 (a.lo * b.lo) (a.lo * b.hi) (a.hi * b.lo) (a.hi * b.hi) * (m * k) := Int.mul_le_mul_of_nonneg_right (by unfold max4; omega) hmk
  have u2 : a.lo * b.hi * (m * k) ≤ max4 (a.lo * b.lo) (a.lo * b.hi) (a.hi * b.lo) (a.hi * b.hi) * (m * k) := Int.mul_le_mul_of_nonneg_right (by unfold max4; omega) hmk
  have u3 : a.hi * b.lo * (m * k) ≤ max4 (a.lo * b.lo) (a.lo * b.hi) (a.hi * b.lo) (a.hi * b.hi) * (m * k) := Int.mul_le_mul_of_nonneg_right (by unfold max4; omega) hmk
  have u4 : a.hi * b.hi * (m * k) ≤ max4 (a.lo * b.lo) (a.lo * b.hi) (a.hi * b.lo) (a.hi * b.hi) * (m * k) := Int.mul_le_mul_of_nonneg_right (by unfold max4; omega) hmk
  omega
theorem mul_In {a b : Iv} {m k x y : Int} (va : Ok a) (vb : Ok b) (hm : 0 ≤ m) (hk : 0 ≤ k) (hx : In a m x) (hy : In b k y) (h1 : -2147483648 * (65536 * (m * k)) ≤ x * y) (h2 : x * y ≤ 2147483648 * (65536 * (m * k))) : In (Iv.mul a b) (65536 * (m * k)) (x * y) := by
  obtain ⟨p1, p2⟩ := mul_prod hm hk hx hy
  have hmk : 0 ≤ m * k := Int.mul_nonneg hm hk
  simp only [Iv.mul, valid_of va, valid_of vb, Bool.and_self, cond_true]
  generalize min4 (a.lo * b.lo) (a.lo * b.hi) (a.hi * b.lo) (a.hi * b.hi) = L at *
  generalize max4 (a.lo * b.lo) (a.lo * b.hi) (a.hi * b.lo) (a.hi * b.hi) = M at *
  have hc := ceil_spec (a := M) (b := 65536) (by decide)
  refine ⟨clamp_lo (by omega) ?_ h1, clamp_hi (by omega) ?_ h2⟩
  · rw [← Int.mul_assoc]
    exact Int.le_trans (Int.mul_le_mul_of_nonneg_right (by omega) hmk) p1
  · rw [← Int.mul_assoc]
    exact Int.le_trans p2 (Int.mul_le_mul_of_nonneg_right (by omega) hmk)
theorem clamp_bnd (z : Int) : -2147483648 ≤ clampI z ∧ clampI z ≤ 2147483648 := by unfold clampI; omega
theorem clamp_mono {x y : Int} (h : x ≤ y) : clampI x ≤ clampI y := by unfold clampI; omega
theorem mul_Ok (a b : Iv) : Ok (Iv.mul a b) := by
  unfold Iv.mul
  cases a.valid && b.valid
  · exact (show Ok ⟨0, 0⟩ by unfold Ok; decide)
  · refine ⟨(clamp_bnd _).1, clamp_mono ?_, (clamp_bnd _).2⟩
    have hc := ceil_spec (a := max4 (a.lo * b.lo) (a.lo * b.hi) (a.hi * b.lo) (a.hi * b.hi)) (b := 65536) (by decide)
    have : min4 (a.lo * b.lo) (a.lo * b.hi) (a.hi * b.lo) (a.hi * b.hi) ≤ max4 (a.lo * b.lo) (a.lo * b.hi) (a.hi * b.lo) (a.hi * b.hi) := by unfold min4 max4; omega
    omega
theorem add_Ok (a b : Iv) : Ok (Iv.add a b) := by
  unfold Iv.add
  cases h : a.valid && b.valid
  · exact (show Ok ⟨0, 0⟩ by unfold Ok; decide)
  · refine ⟨(clamp_bnd _).1, clamp_mono ?_, (clamp_bnd _).2⟩
    simp [Iv.valid] at h; omega
theorem sub_Ok (a b : Iv) : Ok (Iv.sub a b) := by
  unfold Iv.sub
  cases h : a.valid && b.valid
  · exact (show Ok ⟨0, 0⟩ by unfold Ok; decide)
  · refine ⟨(clamp_bnd _).1, clamp_mono ?_, (clamp_bnd _).2⟩
    simp [Iv.valid] at h; omega
theorem add_In {a b : Iv} {m x y : Int} (va : Ok a) (vb : Ok b) (hm : 0 ≤ m) (hx : In a m x) (hy : In b m y) (h1 : -2147483648 * m ≤ x + y) (h2 : x + y ≤ 2147483648 * m) : In (Iv.add a b) m (x + y) := by
  have q1 := hx.lo; have q2 := hx.hi; have q3 := hy.lo; have q4 := hy.hi
  simp only [Iv.add, valid_of va, valid_of vb, Bool.and_self, cond_true]
  refine ⟨clamp_lo hm ?_ h1, clamp_hi hm ?_ h2⟩
  · rw [Int.add_mul]; omega
  · rw [Int.add_mul]; omega
theorem sub_In {a b : Iv} {m x y : Int} (va : Ok a) (vb : Ok b) (hm : 0 ≤ m) (hx : In a m x) (hy : In b m y) (h1 : -2147483648 * m ≤ x - y) (h2 : x - y ≤ 2147483648 * m) : In (Iv.sub a b) m (x - y) := by
  have q1 := hx.lo; have q2 := hx.hi; have q3 := hy.lo; have q4 := hy.hi
  simp only [Iv.sub, valid_of va, valid_of vb, Bool.and_self, cond_true]
  refine ⟨clamp_lo hm ?_ h1, clamp_hi hm ?_ h2⟩
  · rw [Int.sub_mul]; omega
  · rw [Int.sub_mul]; omega
theorem sin_Ok (n : Int) : Ok (sinI n) := by have := sin_bnd n; unfold Ok; omega
theorem cos_Ok (n : Int) : Ok (cosI n) := by rw [cos_sin]; exact sin_Ok _
theorem sin_In (n : Int) : In (sinI n) (5192296858534827628530496329220096 : Int) (PS n) := by
  have b := wbox (r := (n % 16384).toNat) (by omega)
  unfold PS
  rcases quad n with h | h | h | h
  · by_cases h0 : n % 65536 = 16384
    · rw [h0, sin_q0 (m := 16384) h0 (by omega), show (n % 16384).toNat = 0 by omega, first_q]
      refine ⟨?_, ?_⟩ <;> simp [w0]
    · rw [sin_q0 rfl h, if_pos (by omega), first_at h, show (n % 65536).toNat = (n % 16384).toNat by omega]
      exact ⟨b.1, b.2.1⟩
  · by_cases h0 : n % 65536 = 32768
    · rw [h0, sin_q1 (m := 32768) h0 (by omega), show (n % 16384).toNat = 0 by omega, show (32768 : Int) - 32768 = 0 from rfl, first_0]
      refine ⟨?_, ?_⟩ <;> simp [w0]
    · rw [sin_q1 rfl h, if_neg (by omega), if_pos (by omega), first_at (by omega), show (32768 - n % 65536).toNat = 16384 - (n % 16384).toNat by omega]
      exact ⟨b.2.2.1, b.2.2.2⟩
  · by_cases h0 : n % 65536 = 49152
    · rw [h0, sin_q2 (m := 49152) h0 (by omega), show (n % 16384).toNat = 0 by omega, show (49152 : Int) - 32768 = 16384 from rfl, first_q, neg_mk (by omega)]
      refine ⟨?_, ?_⟩ <;> simp [w0]
    · rw [sin_q2 rfl h, if_neg (by omega), if_neg (by omega), if_pos (by omega), neg_first (by omega), first_at (by omega), show (n % 65536 - 32768).toNat = (n % 16384).toNat by omega]
      refine ⟨?_, ?_⟩ <;> simp only <;> omega
  · rw [sin_q3 rfl h, if_neg (by omega), if_neg (by omega), if_neg (by omega), neg_first (by omega), first_at (by omega), show (65536 - n % 65536).toNat = 16384 - (n % 16384).toNat by omega]
    refine ⟨?_, ?_⟩ <;> simp only <;> omega
theorem cos_In (n : Int) : In (cosI n) (5192296858534827628530496329220096 : Int) (PC n) := by rw [cos_sin]; exact sin_In _
theorem prod_bnd {x y : Int} (hx : -(340282366920938463463374607431768211456 : Int) ≤ x ∧ x ≤ (340282366920938463463374607431768211456 : Int)) (hy : -(340282366920938463463374607431768211456 : Int) ≤ y ∧ y ≤ (340282366920938463463374607431768211456 : Int)) : -((340282366920938463463374607431768211456 : Int) * (340282366920938463463374607431768211456 : Int)) ≤ x * y ∧ x * y ≤ (340282366920938463463374607431768211456 : Int) * (340282366920938463463374607431768211456 : Int) := abs_mul hx hy
theorem meet_near {S X : Iv} {p v : Int} (hS : Ok S) (hX : Ok X) (h1 : In S (5192296858534827628530496329220096 : Int) p) (h2 : In X (65536 * ((5192296858534827628530496329220096 : Int) * (5192296858534827628530496329220096 : Int))) v) (hn : -((1099511627776 : Int) * (340282366920938463463374607431768211456 : Int)) ≤ v - (340282366920938463463374607431768211456 : Int) * p ∧ v - (340282366920938463463374607431768211456 : Int) * p ≤ (1099511627776 : Int) * (340282366920938463463374607431768211456 : Int)) : Iv.meetB S X = true := by
  obtain ⟨a1, a2⟩ := h1
  obtain ⟨b1, b2⟩ := h2
  unfold Iv.meetB
  rw [valid_of hS, valid_of hX, Bool.true_and, Bool.true_and, decide_eq_true_eq]
  unfold Ok at hS hX
  omega
theorem adds_sin (a b : Int) : Iv.meetB (sinI (a + b)) (Iv.add (Iv.mul (sinI a) (cosI b)) (Iv.mul (cosI a) (sinI b))) = true := by
  have p1 := prod_bnd (PS_bnd a) (PC_bnd b)
  have p2 := prod_bnd (PC_bnd a) (PS_bnd b)
  have i1 := mul_In (sin_Ok a) (cos_Ok b) (by decide) (by decide) (sin_In a) (cos_In b) (by omega) (by omega)
  have i2 := mul_In (cos_Ok a) (sin_Ok b) (by decide) (by decide) (cos_In a) (sin_In b) (by omega) (by omega)
  have i3 := add_In (mul_Ok _ _) (mul_Ok _ _) (by decide) i1 i2 (by omega) (by omega)
  refine meet_near (sin_Ok _) (add_Ok _ _) (sin_In _) i3 ?_
  have := (near a b).1
  unfold FF at this
  omega
theorem adds_cos (a b : Int) : Iv.meetB (cosI (a + b)) (Iv.sub (Iv.mul (cosI a) (cosI b)) (Iv.mul (sinI a) (sinI b))) = true := by
  have p1 := prod_bnd (PC_bnd a) (PC_bnd b)
  have p2 := prod_bnd (PS_bnd a) (PS_bnd b)
  have i1 := mul_In (cos_Ok a) (cos_Ok b) (by decide) (by decide) (cos_In a) (cos_In b) (by omega) (by omega)
  have i2 := mul_In (sin_Ok a) (sin_Ok b) (by decide) (by decide) (sin_In a) (sin_In b) (by omega) (by omega)
  have i3 := sub_In (mul_Ok _ _) (mul_Ok _ _) (by decide) i1 i2 (by omega) (by omega)
  refine meet_near (cos_Ok _) (sub_Ok _ _) (cos_In _) i3 ?_
  have := (near a b).2
  unfold GG at this
  omega
end Go.Sx

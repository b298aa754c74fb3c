/- What the functions of chapter 3 (sine and cosine) compute, as plain functions. No condition. -/
import Derived.Test.YtonampcmhhhffaaVSxRow
namespace Go.Sx

def dn (x : Int) : Nat → Int
  | 0 => 1073741824
  | 1 => x * 6746518852 / 65536
  | k + 2 => dn x (k + 1) * (x * 6746518852 / 65536) / 1073741824
def up (x : Int) : Nat → Int
  | 0 => 1073741824
  | 1 => ceilI (x * 6746518853) 65536
  | k + 2 => ceilI (up x (k + 1) * ceilI (x * 6746518853) 65536) 1073741824

def pwV (z : Int) (f : Nat → Int) : Value := .agg #[.int .i64 z, .int .i64 (f 1), .int .i64 (f 2), .int .i64 (f 3), .int .i64 (f 4), .int .i64 (f 5), .int .i64 (f 6), .int .i64 (f 7), .int .i64 (f 8), .int .i64 (f 9), .int .i64 (f 10)]
def powV (x : Int) : Value := .tuple #[pwV 1073741824 (dn x), pwV 1073741824 (up x)]
def powR (x : Int) : Value := .tuple #[pwV 0 (dn x), pwV 0 (up x)]

theorem step_dn {m t r : Int} (h : r = m * t / 1073741824) (hm : 0 ≤ m ∧ m ≤ 1073741824) (ht : 0 ≤ t ∧ t ≤ 1073741824) : 0 ≤ r ∧ r ≤ 1073741824 := by
  subst h
  have h1 : 0 ≤ m * t := Int.mul_nonneg hm.1 ht.1
  have h2 : m * t ≤ 1073741824 * 1073741824 := Int.mul_le_mul hm.2 ht.2 ht.1 (by decide)
  omega
theorem ceil_spec {a b : Int} (hb : 0 < b) : a ≤ ceilI a b * b ∧ ceilI a b * b < a + b := by
  unfold ceilI
  have h1 := Int.ediv_mul_le (-a) (Int.ne_of_gt hb)
  have h2 := Int.lt_ediv_add_one_mul_self (-a) hb
  rw [Int.add_mul] at h2
  rw [Int.neg_mul]
  omega
theorem ceil_mono {a a' b : Int} (hb : 0 < b) (h : a ≤ a') : ceilI a b ≤ ceilI a' b := by
  unfold ceilI
  have := Int.ediv_le_ediv hb (show -a' ≤ -a by omega)
  omega
theorem step_up {m t r : Int} (h : r = ceilI (m * t) 1073741824) (hm : 0 ≤ m ∧ m ≤ 1073741824) (ht : 0 ≤ t ∧ t ≤ 1073741824) : 0 ≤ r ∧ r ≤ 1073741824 := by
  subst h
  have h1 : 0 ≤ m * t := Int.mul_nonneg hm.1 ht.1
  have h2 : m * t ≤ 1073741824 * 1073741824 := Int.mul_le_mul hm.2 ht.2 ht.1 (by decide)
  have h3 := ceil_spec (a := m * t) (b := 1073741824) (by decide)
  omega
theorem up1_bnd {x r : Int} (h : r = ceilI (x * 6746518853) 65536) (hx : 0 ≤ x ∧ x ≤ 8192) : 0 ≤ r ∧ r ≤ 1073741824 := by
  have h3 := ceil_spec (a := x * 6746518853) (b := 65536) (by decide)
  omega
theorem dn_bnd {x : Int} (hx : 0 ≤ x ∧ x ≤ 8192) : ∀ k, 0 ≤ dn x k ∧ dn x k ≤ 1073741824
  | 0 => by simp [dn]
  | 1 => by simp only [dn]; omega
  | k + 2 => step_dn rfl (dn_bnd hx (k + 1)) (by omega)
theorem up_bnd {x : Int} (hx : 0 ≤ x ∧ x ≤ 8192) : ∀ k, 0 ≤ up x k ∧ up x k ≤ 1073741824
  | 0 => by simp [up]
  | 1 => up1_bnd rfl hx
  | k + 2 => step_up rfl (up_bnd hx (k + 1)) (up1_bnd rfl hx)

def encI (low high : Int) : Iv := ⟨max 0 (low / 16384), min 65536 (ceilI high 16384)⟩
def sinL (x : Int) : Int := dn x 1 - ceilI (up x 3) 6 + dn x 5 / 120 - ceilI (up x 7) 5040
def sinU (x : Int) : Int := up x 1 - dn x 3 / 6 + ceilI (up x 5) 120 - dn x 7 / 5040 + ceilI (up x 9) 362880
def cosL (x : Int) : Int := 1073741824 - ceilI (up x 2) 2 + dn x 4 / 24 - ceilI (up x 6) 720 + dn x 8 / 40320 - ceilI (up x 10) 3628800
def cosU (x : Int) : Int := 1073741824 - dn x 2 / 2 + ceilI (up x 4) 24 - dn x 6 / 720 + ceilI (up x 8) 40320
def sineI (x : Int) : Iv := encI (sinL x) (sinU x)
def cosineI (x : Int) : Iv := encI (cosL x) (cosU x)
def firstI (r : Int) : Iv := bif decide (r ≤ 8192) then sineI r else cosineI (16384 - r)
def sinM (m : Int) : Iv := bif decide (m / 16384 = 0) then firstI (m % 16384) else bif decide (m / 16384 = 1) then firstI (16384 - m % 16384)
  else bif decide (m / 16384 = 2) then Iv.neg (firstI (m % 16384)) else Iv.neg (firstI (16384 - m % 16384))
def sinI (a : Int) : Iv := sinM (a % 65536)
def cosI (a : Int) : Iv := sinI (a % 65536 + 16384)
def meetsI (a : Iv) (c : Int) : Bool := decide (a.lo + (c - a.lo) % 65536 ≤ a.hi)
def overI (a : Iv) (low high : Iv) (top bottom : Int) : Iv :=
  bif !a.valid then ⟨0, 0⟩ else bif decide (65536 ≤ a.hi - a.lo) then ⟨-65536, 65536⟩ else
    let x := Iv.hull low high
    let y := bif meetsI a top then Iv.hull x (Iv.of 65536) else x
    bif meetsI a bottom then Iv.hull y (Iv.of (-65536)) else y
def sinOverI (a : Iv) : Iv := overI a (sinI a.lo) (sinI a.hi) 16384 49152
def cosOverI (a : Iv) : Iv := overI a (cosI a.lo) (cosI a.hi) 0 32768

theorem ceiling_eq {a b : Int} (ha : 0 ≤ a) (hb : 0 < b) : (a + b - 1) / b = ceilI a b := by
  refine (ceil_iff hb ?_ ?_).symm
  · have := Int.lt_ediv_add_one_mul_self (a + b - 1) hb
    rw [Int.add_mul] at this
    omega
  · have := Int.ediv_mul_le (a + b - 1) (Int.ne_of_gt hb)
    omega
theorem ceil_nonneg {a b : Int} (ha : 0 ≤ a) (hb : 0 < b) : 0 ≤ ceilI a b ∧ ceilI a b ≤ a := by
  have h := ceil_spec (a := a) hb
  constructor
  · rcases Int.lt_or_le (ceilI a b) 0 with h1 | h1
    · have : ceilI a b * b ≤ -1 * b := Int.mul_le_mul_of_nonneg_right (by omega) (Int.le_of_lt hb)
      omega
    · exact h1
  · rcases Int.lt_or_le a (ceilI a b) with h1 | h1
    · have : (a + 1) * b ≤ ceilI a b * b := Int.mul_le_mul_of_nonneg_right (by omega) (Int.le_of_lt hb)
      rw [Int.add_mul] at this
      have h3 : a * 1 ≤ a * b := Int.mul_le_mul_of_nonneg_left (by omega) ha
      omega
    · exact h1
theorem div_bnd {a b : Int} (ha : 0 ≤ a) (hb : 0 < b) : 0 ≤ a / b ∧ a / b ≤ a := ⟨Int.ediv_nonneg ha (Int.le_of_lt hb), Int.ediv_le_self b ha⟩

theorem ceil_nonneg_of {r a b : Int} (h : r = ceilI a b) (ha : 0 ≤ a ∧ a ≤ 1073741824) (hb : 0 < b) : 0 ≤ r ∧ r ≤ 1073741824 := by
  have := ceil_nonneg ha.1 hb
  omega
theorem div_bnd_of {r a b : Int} (h : r = a / b) (ha : 0 ≤ a ∧ a ≤ 1073741824) (hb : 0 < b) : 0 ≤ r ∧ r ≤ 1073741824 := by
  have := div_bnd ha.1 hb
  omega
theorem ceil_quo {a b : Int} (ha : 0 ≤ a ∧ a ≤ 1073741824) (hb : 0 < b ∧ b ≤ 1073741824) : IntKind.i64.wrap ((a + b - 1).tdiv b) = ceilI a b := by
  rw [tdiv_nonneg (by omega) (by omega), ceiling_eq ha.1 hb.1]
  exact i64_in (by have := ceil_nonneg ha.1 hb.1; omega)
theorem in64_mul {a b : Int} (ha : 0 ≤ a ∧ a ≤ 1073741824) (hb : 0 ≤ b ∧ b ≤ 1073741824) : In64 (a * b) := by
  have := mul_bnd (a := a) (b := b) (by omega) (by omega)
  unfold In64; omega
theorem round_neg {n k : Int} (hk : 0 < k) (h : n.tmod k < 0) : n.tmod k + k = n % k := by
  have e := Int.tdiv_mul_add_tmod n k
  have f := floor_neg hk h
  have g := Int.mul_ediv_add_emod n k
  rw [← f, Int.mul_comm, Int.sub_mul] at g
  omega
theorem round_pos {n k : Int} (hk : 0 < k) (h : ¬ n.tmod k < 0) : n.tmod k = n % k := by
  have e := Int.tdiv_mul_add_tmod n k
  have f := floor_pos hk h
  have g := Int.mul_ediv_add_emod n k
  rw [← f, Int.mul_comm] at g
  omega
theorem encI_valid (l h : Int) (hl : l / 16384 ≤ 65536) : -2147483648 ≤ (encI l h).lo := by simp [encI]; omega
theorem mod_ref (a : Int) : (a.tmod 65536 + 65536).tmod 65536 = a % 65536 := by
  have h0 : -65536 < a.tmod 65536 := by have := Int.lt_tmod_of_pos a (show (0 : Int) < 65536 by decide); omega
  rw [Int.tmod_eq_emod_of_nonneg (by omega)]
  have := Int.tdiv_mul_add_tmod a 65536
  omega
end Go.Sx

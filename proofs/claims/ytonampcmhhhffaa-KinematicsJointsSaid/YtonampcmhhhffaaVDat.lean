/- Plain data of the program's numbers and intervals; what the small functions compute. No condition. -/
import Derived.Test.YtonampcmhhhffaaVSxPerm
namespace Go.Sx

structure Iv where
  lo : Int
  hi : Int
@[simp] theorem Iv.eta (x : Iv) : (⟨x.lo, x.hi⟩ : Iv) = x := rfl
def iv (x : Iv) : Value := .agg #[.int .i64 x.lo, .int .i64 x.hi]
def vI (x : Int) : Value := .int .i64 x
def vB (b : Bool) : Value := .bool b
def ivB (x : Iv × Bool) : Value := .tuple #[iv x.1, .bool x.2]

def In64 (a : Int) : Prop := -9223372036854775808 ≤ a ∧ a ≤ 9223372036854775807
def clampI (a : Int) : Int := min (max a (-2147483648)) 2147483648
def ceilI (a b : Int) : Int := -((-a) / b)
def modT (a : Int) : Int := a % 65536

def Iv.valid (a : Iv) : Bool := decide (-2147483648 ≤ a.lo) && decide (a.lo ≤ a.hi) && decide (a.hi ≤ 2147483648)
def Iv.limited (lo hi : Int) : Iv := ⟨clampI lo, clampI hi⟩
def Iv.of (x : Int) : Iv := ⟨clampI x, clampI x⟩
def Iv.neg (a : Iv) : Iv := bif a.valid then ⟨-a.hi, -a.lo⟩ else ⟨0, 0⟩
def Iv.add (a b : Iv) : Iv := bif a.valid && b.valid then ⟨clampI (a.lo + b.lo), clampI (a.hi + b.hi)⟩ else ⟨0, 0⟩
def Iv.sub (a b : Iv) : Iv := bif a.valid && b.valid then ⟨clampI (a.lo - b.hi), clampI (a.hi - b.lo)⟩ else ⟨0, 0⟩
def min4 (a b c d : Int) : Int := min (min (min a b) c) d
def max4 (a b c d : Int) : Int := max (max (max a b) c) d
def Iv.mul (a b : Iv) : Iv := bif a.valid && b.valid then
  ⟨clampI (min4 (a.lo * b.lo) (a.lo * b.hi) (a.hi * b.lo) (a.hi * b.hi) / 65536), clampI (ceilI (max4 (a.lo * b.lo) (a.lo * b.hi) (a.hi * b.lo) (a.hi * b.hi)) 65536)⟩ else ⟨0, 0⟩
def Iv.hasZero (a : Iv) : Bool := decide (a.lo ≤ 0) && decide (0 ≤ a.hi)
def Iv.square (a : Iv) : Iv := bif a.valid then
  ⟨clampI ((bif a.hasZero then 0 else min (a.lo * a.lo) (a.hi * a.hi)) / 65536), clampI (ceilI (max (a.lo * a.lo) (a.hi * a.hi)) 65536)⟩ else ⟨0, 0⟩
def Iv.hull (a b : Iv) : Iv := bif a.valid && b.valid then ⟨min a.lo b.lo, max a.hi b.hi⟩ else ⟨0, 0⟩
def Iv.meetB (a b : Iv) : Bool := a.valid && b.valid && decide (max a.lo b.lo ≤ min a.hi b.hi)
def Iv.meet (a b : Iv) : Iv × Bool := bif a.meetB b then (⟨max a.lo b.lo, min a.hi b.hi⟩, true) else (⟨0, 0⟩, false)
def Iv.has (a : Iv) (x : Int) : Bool := a.valid && decide (a.lo ≤ x) && decide (x ≤ a.hi)
def Iv.within (a b : Iv) : Bool := a.valid && b.valid && decide (b.lo ≤ a.lo) && decide (a.hi ≤ b.hi)
def Iv.width (a : Iv) : Int := bif a.valid then a.hi - a.lo else 0

theorem Iv.valid_spec {a : Iv} (h : a.valid = true) : -2147483648 ≤ a.lo ∧ a.lo ≤ a.hi ∧ a.hi ≤ 2147483648 := by
  simp [Iv.valid] at h; omega
theorem valid_mk {x y : Int} (h : Iv.valid ⟨x, y⟩ = true) : -2147483648 ≤ x ∧ x ≤ y ∧ y ≤ 2147483648 := Iv.valid_spec h

/-! ### integers -/
theorem neg_in {x : Int} (h : -9223372036854775808 ≤ -x ∧ -x ≤ 9223372036854775807) : IntKind.i64.wrap (0 - x) = -x := by
  rw [Int.zero_sub]; exact i64_in h
theorem mul_bnd {a b : Int} (ha : -2147483648 ≤ a ∧ a ≤ 2147483648) (hb : -2147483648 ≤ b ∧ b ≤ 2147483648) : -4611686018427387904 ≤ a * b ∧ a * b ≤ 4611686018427387904 := by
  have h1 : a.natAbs * b.natAbs ≤ 2147483648 * 2147483648 := Nat.mul_le_mul (by omega) (by omega)
  have h2 : (a * b).natAbs = a.natAbs * b.natAbs := Int.natAbs_mul a b
  rw [← h2] at h1
  omega
theorem mul_in {a b : Int} (ha : -2147483648 ≤ a ∧ a ≤ 2147483648) (hb : -2147483648 ≤ b ∧ b ≤ 2147483648) : IntKind.i64.wrap (a * b) = a * b :=
  i64_in (by have := mul_bnd ha hb; omega)

theorem tdiv_bnd {a b : Int} (ha : In64 a) (hb : 0 < b) : In64 (a.tdiv b) := by
  unfold In64 at *
  rcases Int.le_total 0 a with h | h
  · rw [Int.tdiv_eq_ediv_of_nonneg h]
    have h1 := Int.ediv_le_self b h
    have h2 : 0 ≤ a / b := Int.ediv_nonneg h (Int.le_of_lt hb)
    omega
  · have e : a.tdiv b = -((-a) / b) := by
      rw [← Int.tdiv_eq_ediv_of_nonneg (by omega : 0 ≤ -a), Int.neg_tdiv, Int.neg_neg]
    rw [e]
    have h1 := Int.ediv_le_self b (by omega : 0 ≤ -a)
    have h2 : 0 ≤ (-a) / b := Int.ediv_nonneg (by omega) (Int.le_of_lt hb)
    omega
theorem floor_neg {a b : Int} (hb : 0 < b) (h : a.tmod b < 0) : a.tdiv b - 1 = a / b := by
  have h1 := Int.tdiv_mul_add_tmod a b
  have h3 : -b < a.tmod b := by
    have := Int.lt_tmod_of_pos a hb
    omega
  have : a / b = a.tdiv b - 1 := by
    rw [Int.ediv_eq_iff_of_pos hb]
    have e : (a.tdiv b - 1) * b = a.tdiv b * b - b := by rw [Int.sub_mul]; omega
    rw [e]
    omega
  omega
theorem floor_pos {a b : Int} (hb : 0 < b) (h : ¬ a.tmod b < 0) : a.tdiv b = a / b := by
  have h1 := Int.tdiv_mul_add_tmod a b
  have h3 : a.tmod b < b := Int.tmod_lt_of_pos a hb
  have : a / b = a.tdiv b := by
    rw [Int.ediv_eq_iff_of_pos hb]
    omega
  omega
theorem ceil_iff {a b q : Int} (hb : 0 < b) (h1 : a ≤ q * b) (h2 : q * b < a + b) : ceilI a b = q := by
  unfold ceilI
  have : -a / b = -q := by
    rw [Int.ediv_eq_iff_of_pos hb, Int.neg_mul]
    omega
  omega
theorem ceil_pos {a b : Int} (hb : 0 < b) (h : 0 < a.tmod b) : a.tdiv b + 1 = ceilI a b := by
  have h1 := Int.tdiv_mul_add_tmod a b
  have h3 : a.tmod b < b := Int.tmod_lt_of_pos a hb
  refine (ceil_iff hb ?_ ?_).symm <;> rw [Int.add_mul] <;> omega
theorem ceil_neg {a b : Int} (hb : 0 < b) (h : ¬ 0 < a.tmod b) : a.tdiv b = ceilI a b := by
  have h1 := Int.tdiv_mul_add_tmod a b
  have h3 : -b < a.tmod b := by
    have := Int.lt_tmod_of_pos a hb
    omega
  refine (ceil_iff hb ?_ ?_).symm <;> omega

theorem shr_eq {a k : Int} (h0 : 0 ≤ k) (h1 : k ≤ 62) : a.fdiv (2 ^ min k.toNat IntKind.i64.bits) = a / 2 ^ k.toNat := by
  have : min k.toNat IntKind.i64.bits = k.toNat := by
    have hb : IntKind.i64.bits = 64 := rfl
    omega
  rw [this, Int.fdiv_eq_ediv_of_nonneg _ (by exact Int.le_of_lt (Int.pow_pos (by decide)))]
theorem pow_split {k : Nat} (h : k ≤ 62) : (2 : Int) ^ (63 - k) * 2 ^ k = 9223372036854775808 := by
  rw [← Int.pow_add, show 63 - k + k = 63 by omega]; rfl
theorem shl_eq {a k : Int} (ha : In64 a) (h0 : 0 ≤ k) (h1 : k ≤ 62) : IntKind.i64.wrap (a / 2 ^ k.toNat * 2 ^ min k.toNat IntKind.i64.bits) = a / 2 ^ k.toNat * 2 ^ k.toNat := by
  have hm : min k.toNat IntKind.i64.bits = k.toNat := by
    have hb : IntKind.i64.bits = 64 := rfl
    omega
  rw [hm]
  have hp : (0 : Int) < 2 ^ k.toNat := Int.pow_pos (by decide)
  have h2 := Int.ediv_mul_le a (Int.ne_of_gt hp)
  have h3 : -(2 ^ (63 - k.toNat)) ≤ a / 2 ^ k.toNat := by
    rw [Int.le_ediv_iff_mul_le hp, Int.neg_mul, pow_split (by omega)]
    exact ha.1
  have h4 : -(2 ^ (63 - k.toNat)) * 2 ^ k.toNat ≤ a / 2 ^ k.toNat * 2 ^ k.toNat := Int.mul_le_mul_of_nonneg_right h3 (Int.le_of_lt hp)
  rw [Int.neg_mul, pow_split (by omega)] at h4
  exact i64_in ⟨h4, by unfold In64 at ha; omega⟩
theorem ceil_of_mul {a b : Int} (hb : 0 < b) (h : a / b * b = a) : a / b = ceilI a b := (ceil_iff hb (by omega) (by omega)).symm
theorem ceil_of_ne {a b : Int} (hb : 0 < b) (h : ¬ a / b * b = a) : a / b + 1 = ceilI a b := by
  have h1 := Int.ediv_mul_le a (Int.ne_of_gt hb)
  have h2 := Int.lt_ediv_add_one_mul_self a hb
  refine (ceil_iff hb ?_ ?_).symm <;> rw [Int.add_mul] at * <;> omega
theorem mul_le_neg {a b : Int} (ha : a ≤ 0) (hb : 1 ≤ b) : a * b ≤ a := by
  have := Int.mul_le_mul_of_nonneg_left (c := -a) hb (by omega)
  rw [Int.neg_mul, Int.neg_mul] at this
  omega
theorem div_nonpos {a b : Int} (ha : a ≤ 0) (hb : 0 < b) : a / b ≤ 0 := by
  rcases Int.lt_or_le 0 (a / b) with h | h
  · have h1 := Int.ediv_mul_le a (Int.ne_of_gt hb)
    have h2 : 1 * b ≤ a / b * b := Int.mul_le_mul_of_nonneg_right (by omega) (Int.le_of_lt hb)
    omega
  · exact h
theorem shiftUp_bnd {a k : Int} (ha : In64 a) (h : ¬ a / 2 ^ k.toNat * 2 ^ k.toNat = a) : -9223372036854775808 ≤ a / 2 ^ k.toNat + 1 ∧ a / 2 ^ k.toNat + 1 ≤ 9223372036854775807 := by
  have hp : (0 : Int) < 2 ^ k.toNat := Int.pow_pos (by decide)
  unfold In64 at ha
  rcases Int.le_total 0 a with h' | h'
  · have h1 := Int.ediv_le_self (2 ^ k.toNat) h'
    have h2 : 0 ≤ a / 2 ^ k.toNat := Int.ediv_nonneg h' (Int.le_of_lt hp)
    refine ⟨by omega, ?_⟩
    rcases Int.lt_or_le (a / 2 ^ k.toNat) a with h3 | h3
    · omega
    · have e : a / 2 ^ k.toNat = a := by omega
      have h4 := Int.ediv_mul_le a (Int.ne_of_gt hp)
      rw [e] at h4 h
      have h5 : a * 1 ≤ a * 2 ^ k.toNat := Int.mul_le_mul_of_nonneg_left (by omega) h'
      omega
  · have h1 : a / 2 ^ k.toNat ≤ 0 := div_nonpos h' hp
    have h2 : a ≤ a / 2 ^ k.toNat := by
      rw [Int.le_ediv_iff_mul_le hp]
      exact mul_le_neg h' (by omega)
    omega
theorem floor_bnd {a b : Int} (ha : In64 a) (hb : 0 < b) (h : a.tmod b < 0) : -9223372036854775808 ≤ a.tdiv b - 1 ∧ a.tdiv b - 1 ≤ 9223372036854775807 := by
  have h1 := tdiv_bnd ha hb
  have e := floor_neg hb h
  have h2 : a ≤ a / b := by
    have ha0 : a ≤ 0 := by
      rcases Int.le_total a 0 with h' | h'
      · exact h'
      · have := Int.tmod_nonneg b h'
        omega
    rw [Int.le_ediv_iff_mul_le hb]
    exact mul_le_neg ha0 (by omega)
  unfold In64 at *
  omega
theorem ceil_bnd {a b : Int} (ha : In64 a) (hb : 0 < b) (h : 0 < a.tmod b) : -9223372036854775808 ≤ a.tdiv b + 1 ∧ a.tdiv b + 1 ≤ 9223372036854775807 := by
  have h1 := tdiv_bnd ha hb
  have ha0 : 0 ≤ a := by
    rcases Int.le_total 0 a with h' | h'
    · exact h'
    · have h2 := Int.tmod_nonneg b (show 0 ≤ -a by omega)
      rw [Int.neg_tmod] at h2
      omega
  have e := Int.tdiv_mul_add_tmod a b
  have h2 : 0 ≤ a.tdiv b := by rw [Int.tdiv_eq_ediv_of_nonneg ha0]; exact Int.ediv_nonneg ha0 (Int.le_of_lt hb)
  have h3 : a.tdiv b * 1 ≤ a.tdiv b * b := Int.mul_le_mul_of_nonneg_left (by omega) h2
  unfold In64 at *
  omega
theorem clampI_bnd (a : Int) : -2147483648 ≤ clampI a ∧ clampI a ≤ 2147483648 := by unfold clampI; omega
theorem clampI_id {a : Int} (h : -2147483648 ≤ a ∧ a ≤ 2147483648) : clampI a = a := by unfold clampI; omega

theorem and_mask {a : Int} : IntKind.i64.wrap ((BitVec.ofInt IntKind.i64.bits a &&& BitVec.ofInt IntKind.i64.bits 65535).toNat) = a % 65536 := by
  have hb : IntKind.i64.bits = 64 := rfl
  have h1 : (BitVec.ofInt IntKind.i64.bits a &&& BitVec.ofInt IntKind.i64.bits 65535).toNat = (a % 65536).toNat := by
    rw [hb, BitVec.toNat_and]
    have e1 : (BitVec.ofInt 64 65535).toNat = 2 ^ 16 - 1 := by decide
    rw [e1, Nat.and_two_pow_sub_one_eq_mod, BitVec.toNat_ofInt]
    omega
  rw [h1]
  refine (i64_in ?_).trans ?_ <;> omega

section
variable {P : Program} {n : Nat} {w0 : Base} {ops : Array Oper} {Q : Exit → Act → World → Prop} {S : Slots} {H : Heap}
theorem doL_vg {α : Type} {F : α → Value} {x : α} {o : Oper} {rest : List Oper} {d : Nat} (ho : OpV P w0 S H o (F x)) (hw : wantedS ops S o = some true) (hd : o.dst = some d) (hn : Nat.blt d n = true)
    (next : ∀ r, r = x → DoL P n w0 ops Q rest ((d, F r) :: S) H) : DoL P n w0 ops Q (o :: rest) S H := doL_v ho hw hd hn (next x rfl)
theorem doG_vg {α : Type} {F : α → Value} {x : α} {o : Oper} {rest : List Oper} {d : Nat} {K : Slots → Ghosts → Prop} {G : Ghosts} (ho : OpV P w0 S H o (F x)) (hw : wantedS ops S o = some true) (hd : o.dst = some d) (hn : Nat.blt d n = true)
    (next : ∀ r, r = x → DoG P n w0 ops H K rest ((d, F r) :: S) G) : DoG P n w0 ops H K (o :: rest) S G := doG_v ho hw hd hn (next x rfl)
theorem fits_lit {a : Act} {d : Nat} {b c : Bool} (f : Fits n S a) (hb : look S d = some (.bool b)) (e : b = c) : Fits n ((d, .bool c) :: S) a := by
  subst e; exact fits_more f (f.has _ _ hb)
theorem doL_split {l : List Oper} (d : Nat) {b : Bool} (hb : look S d = some (.bool b)) (ht : b = true → DoL P n w0 ops Q l ((d, .bool true) :: S) H) (hf : b = false → DoL P n w0 ops Q l ((d, .bool false) :: S) H) :
    DoL P n w0 ops Q l S H := fun a w f k => by
  cases hbb : b with
  | true => exact ht hbb a w (fits_lit f hb hbb) k
  | false => exact hf hbb a w (fits_lit f hb hbb) k
theorem doL_true {l : List Oper} (d : Nat) {b : Bool} (hb : look S d = some (.bool b)) (h : b = true) (next : DoL P n w0 ops Q l ((d, .bool true) :: S) H) : DoL P n w0 ops Q l S H :=
  fun a w f k => next a w (fits_lit f hb h) k
theorem doC_split {c : Code} (d : Nat) {b : Bool} (hb : look S d = some (.bool b)) (ht : b = true → DoC P n w0 Q c ((d, .bool true) :: S) H) (hf : b = false → DoC P n w0 Q c ((d, .bool false) :: S) H) :
    DoC P n w0 Q c S H := fun a w f k => by
  cases hbb : b with
  | true => exact ht hbb a w (fits_lit f hb hbb) k
  | false => exact hf hbb a w (fits_lit f hb hbb) k
theorem doC_true {c : Code} (d : Nat) {b : Bool} (hb : look S d = some (.bool b)) (h : b = true) (next : DoC P n w0 Q c ((d, .bool true) :: S) H) : DoC P n w0 Q c S H :=
  fun a w f k => next a w (fits_lit f hb h) k
end
end Go.Sx

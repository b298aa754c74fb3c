/- Plain laws: rotations keep lengths; a rotation and its transposed matrix. No condition. -/
import Derived.Test.YtonampcmhhhffaaMatSrc
namespace Go.Sx
theorem square_prod {a : Iv} {m x : Int} (hm : 0 ≤ m) (h : In a m x) : (bif a.hasZero then 0 else min (a.lo * a.lo) (a.hi * a.hi)) * (m * m) ≤ x * x ∧ x * x ≤ max (a.lo * a.lo) (a.hi * a.hi) * (m * m) := by
  obtain ⟨h1, h2⟩ := h
  have e1 : a.lo * a.lo * (m * m) = (a.lo * m) * (a.lo * m) := by grind
  have e2 : a.hi * a.hi * (m * m) = (a.hi * m) * (a.hi * m) := by grind
  have hmm := sq_nonneg m
  have up : x * x ≤ (a.lo * m) * (a.lo * m) ∨ x * x ≤ (a.hi * m) * (a.hi * m) := by
    rcases Int.le_total 0 x with hx | hx
    · exact .inr (sq_le hx h2)
    · have := sq_le (x := -x) (y := -(a.lo * m)) (by omega) (by omega)
      rw [Int.neg_mul_neg, Int.neg_mul_neg] at this
      exact .inl this
  constructor
  · cases hz : a.hasZero with
    | true => simp only [cond_true, Int.zero_mul]; exact sq_nonneg x
    | false =>
      simp only [cond_false]
      have hz' : 0 < a.lo ∨ a.hi < 0 := by
        unfold Iv.hasZero at hz
        rw [Bool.and_eq_false_iff] at hz
        rcases hz with hz | hz
        · exact .inl (by have := of_decide_eq_false hz; omega)
        · exact .inr (by have := of_decide_eq_false hz; omega)
      rcases hz' with hz' | hz'
      · have h3 : 0 ≤ a.lo * m := Int.mul_nonneg (by omega) hm
        have h4 := sq_le h3 h1
        rw [← e1] at h4
        exact Int.le_trans (Int.mul_le_mul_of_nonneg_right (by omega) hmm) h4
      · have h3 : 0 ≤ (-a.hi) * m := Int.mul_nonneg (by omega) hm
        rw [Int.neg_mul] at h3
        have h4 := sq_le (x := -(a.hi * m)) (y := -x) h3 (by omega)
        rw [Int.neg_mul_neg, Int.neg_mul_neg, ← e2] at h4
        exact Int.le_trans (Int.mul_le_mul_of_nonneg_right (by omega) hmm) h4
  · rcases up with h | h
    · rw [← e1] at h
      exact Int.le_trans h (Int.mul_le_mul_of_nonneg_right (by omega) hmm)
    · rw [← e2] at h
      exact Int.le_trans h (Int.mul_le_mul_of_nonneg_right (by omega) hmm)
theorem square_Ok (a : Iv) : Ok (Iv.square a) := by
  unfold Iv.square
  cases a.valid
  · exact (show Ok ⟨0, 0⟩ by unfold Ok; decide)
  · refine ⟨(clamp_bnd _).1, clamp_mono ?_, (clamp_bnd _).2⟩
    have hc := ceil_spec (a := max (a.lo * a.lo) (a.hi * a.hi)) (b := 65536) (by decide)
    have h1 := sq_nonneg a.lo
    have h2 := sq_nonneg a.hi
    have : (bif a.hasZero then 0 else min (a.lo * a.lo) (a.hi * a.hi)) ≤ max (a.lo * a.lo) (a.hi * a.hi) := by cases a.hasZero <;> simp only [cond_true, cond_false] <;> omega
    omega
theorem square_In {a : Iv} {m x : Int} (va : Ok a) (hm : 0 ≤ m) (hx : In a m x) (h2 : x * x ≤ 2147483648 * (65536 * (m * m))) : In (Iv.square a) (65536 * (m * m)) (x * x) := by
  obtain ⟨p1, p2⟩ := square_prod hm hx
  have hmk := sq_nonneg m
  have hxx := sq_nonneg x
  simp only [Iv.square, valid_of va, cond_true]
  generalize (bif a.hasZero then 0 else min (a.lo * a.lo) (a.hi * a.hi)) = Lo at *
  generalize max (a.lo * a.lo) (a.hi * a.hi) = Hi at *
  have hc := ceil_spec (a := Hi) (b := 65536) (by decide)
  refine ⟨clamp_lo (by omega) ?_ (by omega), clamp_hi (by omega) ?_ h2⟩
  · rw [← Int.mul_assoc]
    exact Int.le_trans (Int.mul_le_mul_of_nonneg_right (by omega) hmk) p1
  · rw [← Int.mul_assoc]
    exact Int.le_trans p2 (Int.mul_le_mul_of_nonneg_right (by omega) hmk)
theorem norm_Ok (v : V3) : Ok v.norm := add_Ok _ _
theorem norm_In {v : V3} {m B : Int} {x : R3} (va : VOk v) (hm : 0 ≤ m) (hx : VIn v m x) (h : R3.dot x x ≤ 2147483648 * (65536 * (m * m))) : In v.norm (65536 * (m * m)) (R3.dot x x) := by
  have s1 := sq_nonneg x.x
  have s2 := sq_nonneg x.y
  have s3 := sq_nonneg x.z
  have hmk := sq_nonneg m
  unfold R3.dot at *
  have i1 := square_In va.x hm hx.x (by omega)
  have i2 := square_In va.y hm hx.y (by omega)
  have i3 := square_In va.z hm hx.z (by omega)
  have i4 := add_In (square_Ok _) (square_Ok _) (by omega) i1 i2 (by omega) (by omega)
  exact add_In (add_Ok _ _) (square_Ok _) (by omega) i4 i3 (by omega) (by omega)
theorem TR_len (k n : Int) (v : R3) : R3.dot ((TR k n).app v) ((TR k n).app v) ≤ (340282366920938463463374607431768211456 : Int) * (340282366920938463463374607431768211456 : Int) * R3.dot v v ∧ (340282366920938463463374607431768211456 : Int) * (340282366920938463463374607431768211456 : Int) * R3.dot v v - 2 * (1099511627776 : Int) * (340282366920938463463374607431768211456 : Int) * R3.dot v v ≤ R3.dot ((TR k n).app v) ((TR k n).app v) := by
  have n1 := P_norm n
  have n2 := P_norm_lo n
  have sx := sq_nonneg v.x
  have sy := sq_nonneg v.y
  have sz := sq_nonneg v.z
  generalize hq : PC n * PC n + PS n * PS n = q at *
  have key : ∀ {a b : Int}, 0 ≤ a → 0 ≤ b → q * a ≤ (340282366920938463463374607431768211456 : Int) * (340282366920938463463374607431768211456 : Int) * a ∧ ((340282366920938463463374607431768211456 : Int) * (340282366920938463463374607431768211456 : Int) - 2 * (1099511627776 : Int) * (340282366920938463463374607431768211456 : Int)) * a ≤ q * a := fun {a b} ha _ => ⟨Int.mul_le_mul_of_nonneg_right n1 ha, Int.mul_le_mul_of_nonneg_right n2 ha⟩
  unfold TR
  split
  · have e : R3.dot (RM.app ⟨⟨(340282366920938463463374607431768211456 : Int), 0, 0⟩, ⟨0, PC n, -PS n⟩, ⟨0, PS n, PC n⟩⟩ v) (RM.app ⟨⟨(340282366920938463463374607431768211456 : Int), 0, 0⟩, ⟨0, PC n, -PS n⟩, ⟨0, PS n, PC n⟩⟩ v) = (340282366920938463463374607431768211456 : Int) * (340282366920938463463374607431768211456 : Int) * (v.x * v.x) + q * (v.y * v.y + v.z * v.z) := by
      rw [← hq]; simp only [RM.app, R3.dot]; grind
    rw [e]
    have := key (a := v.y * v.y + v.z * v.z) (b := 0) (by omega) (by omega)
    unfold R3.dot
    omega
  · split
    · have e : R3.dot (RM.app ⟨⟨PC n, 0, PS n⟩, ⟨0, (340282366920938463463374607431768211456 : Int), 0⟩, ⟨-PS n, 0, PC n⟩⟩ v) (RM.app ⟨⟨PC n, 0, PS n⟩, ⟨0, (340282366920938463463374607431768211456 : Int), 0⟩, ⟨-PS n, 0, PC n⟩⟩ v) = (340282366920938463463374607431768211456 : Int) * (340282366920938463463374607431768211456 : Int) * (v.y * v.y) + q * (v.x * v.x + v.z * v.z) := by
        rw [← hq]; simp only [RM.app, R3.dot]; grind
      rw [e]
      have := key (a := v.x * v.x + v.z * v.z) (b := 0) (by omega) (by omega)
      unfold R3.dot
      omega
    · have e : R3.dot (RM.app ⟨⟨PC n, -PS n, 0⟩, ⟨PS n, PC n, 0⟩, ⟨0, 0, (340282366920938463463374607431768211456 : Int)⟩⟩ v) (RM.app ⟨⟨PC n, -PS n, 0⟩, ⟨PS n, PC n, 0⟩, ⟨0, 0, (340282366920938463463374607431768211456 : Int)⟩⟩ v) = (340282366920938463463374607431768211456 : Int) * (340282366920938463463374607431768211456 : Int) * (v.z * v.z) + q * (v.x * v.x + v.y * v.y) := by
        rw [← hq]; simp only [RM.app, R3.dot]; grind
      rw [e]
      have := key (a := v.x * v.x + v.y * v.y) (b := 0) (by omega) (by omega)
      unfold R3.dot
      omega
theorem of_In {n : Int} (h : -2147483648 ≤ n ∧ n ≤ 2147483648) : In (Iv.of n) 1 n := by
  rw [of_id h]; exact ⟨by simp, by simp⟩
theorem length_law {k n : Int} {p : Z3} (hk : 0 ≤ k ∧ k < 3) (hn : -1000000 ≤ n ∧ n ≤ 1000000) (hx : -1000000 ≤ p.x ∧ p.x ≤ 1000000) (hy : -1000000 ≤ p.y ∧ p.y ≤ 1000000) (hz : -1000000 ≤ p.z ∧ p.z ≤ 1000000) :
    Iv.meetB (V3.norm (V3.of p)) (V3.norm (M3.apply (M3.turn k (Iv.of n)) (V3.of p))) = true := by
  have h : k = 0 ∨ k = 1 ∨ k = 2 := by omega
  have e1 := of_id (n := n) (by omega)
  have i1 := turn_In (of_Ok n) (n := n) (by rw [e1]; simp) h
  have vo : VOk (V3.of p) := ⟨of_Ok _, of_Ok _, of_Ok _⟩
  have vi : VIn (V3.of p) 1 ⟨p.x, p.y, p.z⟩ := ⟨of_In (by omega), of_In (by omega), of_In (by omega)⟩
  have vb : RB (1000000 * 1) ⟨p.x, p.y, p.z⟩ := ⟨by simp only; omega, by simp only; omega, by simp only; omega⟩
  have i2 := app_In (turn_Ok (of_Ok n) h) vo (by decide) (by decide) i1 vi TR_b vb (by decide)
  have wo : VOk (M3.apply (M3.turn k (Iv.of n)) (V3.of p)) := ⟨dot_Ok _ _, dot_Ok _ _, dot_Ok _ _⟩
  have tl := TR_len k n ⟨p.x, p.y, p.z⟩
  have q1 := sq_nonneg p.x
  have q2 := sq_nonneg p.y
  have q3 := sq_nonneg p.z
  have r1 := (abs_mul hx hx).2
  have r2 := (abs_mul hy hy).2
  have r3 := (abs_mul hz hz).2
  have dv : R3.dot ⟨p.x, p.y, p.z⟩ ⟨p.x, p.y, p.z⟩ = p.x * p.x + p.y * p.y + p.z * p.z := rfl
  have db : 0 ≤ R3.dot ⟨p.x, p.y, p.z⟩ ⟨p.x, p.y, p.z⟩ ∧ R3.dot ⟨p.x, p.y, p.z⟩ ⟨p.x, p.y, p.z⟩ ≤ 3000000000000 := by rw [dv]; omega
  have n1 := norm_In (B := 0) vo (by decide) vi (by omega)
  have n2 := norm_In (B := 0) wo (by decide) i2 (by omega)
  have o1 := norm_Ok (V3.of p)
  have o2 := norm_Ok (M3.apply (M3.turn k (Iv.of n)) (V3.of p))
  generalize V3.norm (V3.of p) = A at *
  generalize V3.norm (M3.apply (M3.turn k (Iv.of n)) (V3.of p)) = C at *
  generalize R3.dot ⟨p.x, p.y, p.z⟩ ⟨p.x, p.y, p.z⟩ = s at *
  generalize R3.dot ((TR k n).app ⟨p.x, p.y, p.z⟩) ((TR k n).app ⟨p.x, p.y, p.z⟩) = t at *
  obtain ⟨a1, a2⟩ := n1
  obtain ⟨b1, b2⟩ := n2
  unfold Iv.meetB
  rw [valid_of o1, valid_of o2, Bool.true_and, Bool.true_and, decide_eq_true_eq]
  unfold Ok at o1 o2
  omega

/-! ### a matrix of which the rows are nearly at right angles -/
structure Dg (P E : Int) (B : RM) : Prop where
  x : 0 ≤ P - R3.dot B.x B.x ∧ P - R3.dot B.x B.x ≤ E
  y : 0 ≤ P - R3.dot B.y B.y ∧ P - R3.dot B.y B.y ≤ E
  z : 0 ≤ P - R3.dot B.z B.z ∧ P - R3.dot B.z B.z ≤ E
  xy : R3.dot B.x B.y = 0
  xz : R3.dot B.x B.z = 0
  yz : R3.dot B.y B.z = 0
theorem TR_Dg (k n : Int) : Dg ((340282366920938463463374607431768211456 : Int) * (340282366920938463463374607431768211456 : Int)) (2 * (1099511627776 : Int) * (340282366920938463463374607431768211456 : Int)) (TR k n) ∧ Dg ((340282366920938463463374607431768211456 : Int) * (340282366920938463463374607431768211456 : Int)) (2 * (1099511627776 : Int) * (340282366920938463463374607431768211456 : Int)) (TR k n).tr := by
  have n1 := P_norm n
  have n2 := P_norm_lo n
  have c := Int.mul_comm (PS n) (PC n)
  unfold TR
  split
  · constructor <;> (constructor <;> simp only [RM.tr, R3.dot, Int.neg_mul, Int.mul_neg, Int.neg_neg, Int.mul_zero, Int.zero_mul] <;> omega)
  · split
    · constructor <;> (constructor <;> simp only [RM.tr, R3.dot, Int.neg_mul, Int.mul_neg, Int.neg_neg, Int.mul_zero, Int.zero_mul] <;> omega)
    · constructor <;> (constructor <;> simp only [RM.tr, R3.dot, Int.neg_mul, Int.mul_neg, Int.neg_neg, Int.mul_zero, Int.zero_mul] <;> omega)
theorem e_sq {e E a : Int} (h : 0 ≤ e ∧ e ≤ E) : 0 ≤ e * (a * a) ∧ e * (a * a) ≤ E * (a * a) :=
  ⟨Int.mul_nonneg h.1 (sq_nonneg a), Int.mul_le_mul_of_nonneg_right h.2 (sq_nonneg a)⟩
theorem e_mul {e E a b : Int} (h : 0 ≤ e ∧ e ≤ E) : -(E * (a * a + b * b)) ≤ 2 * (e * (a * b)) ∧ 2 * (e * (a * b)) ≤ E * (a * a + b * b) := by
  have h1 := e_sq (a := a) h
  have h2 := e_sq (a := b) h
  have h3 := Int.mul_nonneg h.1 (sq_nonneg (a - b))
  have h4 := Int.mul_nonneg h.1 (sq_nonneg (a + b))
  have i3 : e * ((a - b) * (a - b)) = e * (a * a) + e * (b * b) - 2 * (e * (a * b)) := by grind
  have i4 : e * ((a + b) * (a + b)) = e * (a * a) + e * (b * b) + 2 * (e * (a * b)) := by grind
  have i5 : E * (a * a + b * b) = E * (a * a) + E * (b * b) := by grind
  rw [i3] at h3
  rw [i4] at h4
  rw [i5]
  omega
theorem tr_dot {B : RM} {P E : Int} (h : Dg P E B) (a b : R3) : R3.dot (B.tr.app a) (B.tr.app b) = P * R3.dot a b - ((P - R3.dot B.x B.x) * (a.x * b.x) + (P - R3.dot B.y B.y) * (a.y * b.y) + (P - R3.dot B.z B.z) * (a.z * b.z)) := by
  have e : R3.dot (B.tr.app a) (B.tr.app b) = a.x * b.x * R3.dot B.x B.x + a.y * b.y * R3.dot B.y B.y + a.z * b.z * R3.dot B.z B.z + (a.x * b.y + a.y * b.x) * R3.dot B.x B.y + (a.x * b.z + a.z * b.x) * R3.dot B.x B.z + (a.y * b.z + a.z * b.y) * R3.dot B.y B.z := by
    simp only [RM.app, RM.tr, R3.dot]; grind
  rw [e, h.xy, h.xz, h.yz]
  simp only [R3.dot]
  grind
/-- one row with itself -/
theorem tr_self {B : RM} {P E Q : Int} (h : Dg P E B) (a : R3) (hP : 0 ≤ P) (hE : 0 ≤ E) : R3.dot (B.tr.app a) (B.tr.app a) ≤ P * R3.dot a a ∧ P * R3.dot a a - E * R3.dot a a ≤ R3.dot (B.tr.app a) (B.tr.app a) := by
  rw [tr_dot h]
  have h1 := e_sq (a := a.x) h.x
  have h2 := e_sq (a := a.y) h.y
  have h3 := e_sq (a := a.z) h.z
  have i : E * R3.dot a a = E * (a.x * a.x) + E * (a.y * a.y) + E * (a.z * a.z) := by simp only [R3.dot]; grind
  rw [i]
  omega
/-- two rows -/
theorem tr_two {B : RM} {P E : Int} (h : Dg P E B) (a b : R3) : 2 * (P * R3.dot a b) - E * (R3.dot a a + R3.dot b b) ≤ 2 * R3.dot (B.tr.app a) (B.tr.app b) ∧ 2 * R3.dot (B.tr.app a) (B.tr.app b) ≤ 2 * (P * R3.dot a b) + E * (R3.dot a a + R3.dot b b) := by
  rw [tr_dot h]
  have h1 := e_mul (a := a.x) (b := b.x) h.x
  have h2 := e_mul (a := a.y) (b := b.y) h.y
  have h3 := e_mul (a := a.z) (b := b.z) h.z
  have i : E * (R3.dot a a + R3.dot b b) = E * (a.x * a.x + b.x * b.x) + E * (a.y * a.y + b.y * b.y) + E * (a.z * a.z + b.z * b.z) := by simp only [R3.dot]; grind
  rw [i]
  omega
end Go.Sx

/- Plain law: a rotation and its transposed matrix give a matrix that contains the identity. No condition. -/
import Derived.Test.YtonampcmhhhffaaMatLaw5
namespace Go.Sx
theorem abs_of_sq {x M : Int} (hM : 0 ≤ M) (h : x * x ≤ M * M) : -M ≤ x ∧ x ≤ M := by
  constructor
  · rcases Int.lt_or_le x (-M) with g | g
    · have := sq_le (x := M + 1) (y := -x) (by omega) (by omega)
      rw [Int.neg_mul_neg] at this
      have e : (M + 1) * (M + 1) = M * M + 2 * M + 1 := by grind
      omega
    · exact g
  · rcases Int.lt_or_le M x with g | g
    · have := sq_le (x := M + 1) (y := x) (by omega) (by omega)
      have e : (M + 1) * (M + 1) = M * M + 2 * M + 1 := by grind
      omega
    · exact g
theorem rb_of_dot {r : R3} {M : Int} (hM : 0 ≤ M) (h : R3.dot r r ≤ M * M) : RB M r := by
  have s1 := sq_nonneg r.x
  have s2 := sq_nonneg r.y
  have s3 := sq_nonneg r.z
  unfold R3.dot at h
  exact ⟨abs_of_sq hM (by omega), abs_of_sq hM (by omega), abs_of_sq hM (by omega)⟩
theorem dot_comm (a b : R3) : R3.dot a b = R3.dot b a := by unfold R3.dot; grind
structure Orth (Q T : Int) (X : RM) : Prop where
  x : Q - T ≤ R3.dot X.x X.x ∧ R3.dot X.x X.x ≤ Q
  y : Q - T ≤ R3.dot X.y X.y ∧ R3.dot X.y X.y ≤ Q
  z : Q - T ≤ R3.dot X.z X.z ∧ R3.dot X.z X.z ≤ Q
  xy : -T ≤ R3.dot X.x X.y ∧ R3.dot X.x X.y ≤ T
  xz : -T ≤ R3.dot X.x X.z ∧ R3.dot X.x X.z ≤ T
  yz : -T ≤ R3.dot X.y X.z ∧ R3.dot X.y X.z ≤ T
theorem iv_pt_within {I : Iv} {S T r c : Int} (v : Ok I) (h : In I S r) (hS : 0 < S) (hc : -65536 ≤ c ∧ c ≤ 65536) (h1 : c * S - T ≤ r) (h2 : r ≤ c * S + T) (hT : T < S) : Iv.within ⟨c, c⟩ I = true := by
  obtain ⟨a1, a2⟩ := h
  have l1 : I.lo ≤ c := by
    rcases Int.lt_or_le c I.lo with g | g
    · have := Int.mul_le_mul_of_nonneg_right (show c + 1 ≤ I.lo by omega) (Int.le_of_lt hS)
      rw [Int.add_mul] at this
      omega
    · exact g
  have l2 : c ≤ I.hi := by
    rcases Int.lt_or_le I.hi c with g | g
    · have := Int.mul_le_mul_of_nonneg_right (show I.hi ≤ c - 1 by omega) (Int.le_of_lt hS)
      rw [Int.sub_mul] at this
      omega
    · exact g
  have vc : Iv.valid ⟨c, c⟩ = true := by simp [Iv.valid]; omega
  simp only [Iv.within, vc, valid_of v, Bool.true_and, Bool.and_eq_true, decide_eq_true_eq]
  exact ⟨l1, l2⟩
theorem unit_within {Y : M3} {S Q T : Int} {X : RM} (v : MOk Y) (h : MIn Y S (RM.mul X X.tr)) (hS : 0 < S) (o : Orth Q T X) (hQ : Q = 65536 * S) (hT : T < S) (h0 : 0 ≤ T) : M3.within M3.unit Y = true := by
  have pt : ∀ {c : Int} {I : Iv} {r : Int}, Ok I → In I S r → -65536 ≤ c ∧ c ≤ 65536 → c * S - T ≤ r → r ≤ c * S + T → Iv.within ⟨c, c⟩ I = true := fun vi hi hc h1 h2 => iv_pt_within vi hi hS hc h1 h2 hT
  subst hQ
  have c1 := dot_comm X.x X.y
  have c2 := dot_comm X.x X.z
  have c3 := dot_comm X.y X.z
  have ox := o.x
  have oy := o.y
  have oz := o.z
  have pxy := o.xy
  have pxz := o.xz
  have pyz := o.yz
  have xx : In Y.x.x S (R3.dot X.x X.x) := h.x.x
  have xy : In Y.x.y S (R3.dot X.y X.x) := h.x.y
  have xz : In Y.x.z S (R3.dot X.z X.x) := h.x.z
  have yx : In Y.y.x S (R3.dot X.x X.y) := h.y.x
  have yy : In Y.y.y S (R3.dot X.y X.y) := h.y.y
  have yz : In Y.y.z S (R3.dot X.z X.y) := h.y.z
  have zx : In Y.z.x S (R3.dot X.x X.z) := h.z.x
  have zy : In Y.z.y S (R3.dot X.y X.z) := h.z.y
  have zz : In Y.z.z S (R3.dot X.z X.z) := h.z.z
  have w1 := pt v.x.x xx (c := 65536) (by decide) (by omega) (by omega)
  have w2 := pt v.x.y xy (c := 0) (by decide) (by omega) (by omega)
  have w3 := pt v.x.z xz (c := 0) (by decide) (by omega) (by omega)
  have w4 := pt v.y.x yx (c := 0) (by decide) (by omega) (by omega)
  have w5 := pt v.y.y yy (c := 65536) (by decide) (by omega) (by omega)
  have w6 := pt v.y.z yz (c := 0) (by decide) (by omega) (by omega)
  have w7 := pt v.z.x zx (c := 0) (by decide) (by omega) (by omega)
  have w8 := pt v.z.y zy (c := 0) (by decide) (by omega) (by omega)
  have w9 := pt v.z.z zz (c := 65536) (by decide) (by omega) (by omega)
  simp only [M3.within, V3.within, M3.unit, iv0, iv1, w1, w2, w3, w4, w5, w6, w7, w8, w9, Bool.and_self]
theorem orth_mul {A B : RM} {P E : Int} (a : Dg P E A) (b : Dg P E B) (hP : 0 ≤ P) (hE : 0 ≤ E) : Orth (P * P) (2 * (E * P)) (RM.mul A B) := by
  have sx := tr_self (Q := 0) b A.x hP hE
  have sy := tr_self (Q := 0) b A.y hP hE
  have sz := tr_self (Q := 0) b A.z hP hE
  have dxy := tr_two b A.x A.y
  have dxz := tr_two b A.x A.z
  have dyz := tr_two b A.y A.z
  rw [a.xy] at dxy
  rw [a.xz] at dxz
  rw [a.yz] at dyz
  have ax := a.x
  have ay := a.y
  have az := a.z
  have up : ∀ {q : Int}, q ≤ P → P * q ≤ P * P := fun h => Int.mul_le_mul_of_nonneg_left h hP
  have lo : ∀ {q : Int}, P - E ≤ q → P * P - E * P ≤ P * q := fun {q} h => by
    have := Int.mul_le_mul_of_nonneg_left h hP
    have e : P * (P - E) = P * P - E * P := by grind
    omega
  have ee : ∀ {q : Int}, q ≤ P → E * q ≤ E * P := fun h => Int.mul_le_mul_of_nonneg_left h hE
  have ux := up (q := R3.dot A.x A.x) (by omega)
  have uy := up (q := R3.dot A.y A.y) (by omega)
  have uz := up (q := R3.dot A.z A.z) (by omega)
  have lx := lo (q := R3.dot A.x A.x) (by omega)
  have ly := lo (q := R3.dot A.y A.y) (by omega)
  have lz := lo (q := R3.dot A.z A.z) (by omega)
  have ex := ee (q := R3.dot A.x A.x) (by omega)
  have ey := ee (q := R3.dot A.y A.y) (by omega)
  have ez := ee (q := R3.dot A.z A.z) (by omega)
  have e1 : E * (R3.dot A.x A.x + R3.dot A.y A.y) = E * R3.dot A.x A.x + E * R3.dot A.y A.y := by grind
  have e2 : E * (R3.dot A.x A.x + R3.dot A.z A.z) = E * R3.dot A.x A.x + E * R3.dot A.z A.z := by grind
  have e3 : E * (R3.dot A.y A.y + R3.dot A.z A.z) = E * R3.dot A.y A.y + E * R3.dot A.z A.z := by grind
  rw [e1] at dxy
  rw [e2] at dxz
  rw [e3] at dyz
  have nn : 0 ≤ E * P := Int.mul_nonneg hE hP
  exact ⟨by simp only [RM.mul]; omega, by simp only [RM.mul]; omega, by simp only [RM.mul]; omega, by simp only [RM.mul]; omega, by simp only [RM.mul]; omega, by simp only [RM.mul]; omega⟩
theorem mul_tr (A B : RM) : (RM.mul A B).tr = RM.mul B.tr A.tr := by
  simp only [RM.mul, RM.tr, RM.app, R3.dot, RM.mk.injEq, R3.mk.injEq]
  refine ⟨⟨?_, ?_, ?_⟩, ⟨?_, ?_, ?_⟩, ⟨?_, ?_, ?_⟩⟩ <;> grind
theorem Orth.rmb {X : RM} {M T : Int} (o : Orth (M * M) T X) (hM : 0 ≤ M) : RMB M X := ⟨rb_of_dot hM o.x.2, rb_of_dot hM o.y.2, rb_of_dot hM o.z.2⟩
/-- the entries of the product with the transposed matrix -/
theorem Orth.prod {X : RM} {Q T : Int} (o : Orth Q T X) (hT : T ≤ Q) (h0 : 0 ≤ T) : RMB Q (RM.mul X X.tr) := by
  have c1 := dot_comm X.x X.y
  have c2 := dot_comm X.x X.z
  have c3 := dot_comm X.y X.z
  have ox := o.x
  have oy := o.y
  have oz := o.z
  have pxy := o.xy
  have pxz := o.xz
  have pyz := o.yz
  have e : RM.mul X X.tr = ⟨⟨R3.dot X.x X.x, R3.dot X.y X.x, R3.dot X.z X.x⟩, ⟨R3.dot X.x X.y, R3.dot X.y X.y, R3.dot X.z X.y⟩, ⟨R3.dot X.x X.z, R3.dot X.y X.z, R3.dot X.z X.z⟩⟩ := rfl
  rw [e]
  exact ⟨⟨by simp only; omega, by simp only; omega, by simp only; omega⟩, ⟨by simp only; omega, by simp only; omega, by simp only; omega⟩, ⟨by simp only; omega, by simp only; omega, by simp only; omega⟩⟩
theorem orth_law {k l x y : Int} (hk : 0 ≤ k ∧ k < 3) (hl : 0 ≤ l ∧ l < 3) (hx : -1000000 ≤ x ∧ x ≤ 1000000) (hy : -1000000 ≤ y ∧ y ≤ 1000000) :
    M3.within M3.unit (M3.mul (M3.mul (M3.turn k (Iv.of x)) (M3.turn l (Iv.of y))) (M3.mul (M3.turn k (Iv.of x)) (M3.turn l (Iv.of y))).tr) = true ∧
    M3.within M3.unit (M3.mul (M3.mul (M3.turn k (Iv.of x)) (M3.turn l (Iv.of y))).tr (M3.mul (M3.turn k (Iv.of x)) (M3.turn l (Iv.of y)))) = true := by
  have h : k = 0 ∨ k = 1 ∨ k = 2 := by omega
  have h' : l = 0 ∨ l = 1 ∨ l = 2 := by omega
  have e1 := of_id (n := x) (by omega)
  have e2 := of_id (n := y) (by omega)
  have i1 := turn_In (of_Ok x) (n := x) (by rw [e1]; simp) h
  have i2 := turn_In (of_Ok y) (n := y) (by rw [e2]; simp) h'
  have o := orth_mul (TR_Dg k x).1 (TR_Dg l y).1 (by decide) (by decide)
  have o' : Orth ((340282366920938463463374607431768211456 : Int) * (340282366920938463463374607431768211456 : Int) * ((340282366920938463463374607431768211456 : Int) * (340282366920938463463374607431768211456 : Int))) (2 * (2 * (1099511627776 : Int) * (340282366920938463463374607431768211456 : Int) * ((340282366920938463463374607431768211456 : Int) * (340282366920938463463374607431768211456 : Int)))) (RM.mul (TR k x) (TR l y)).tr := by
    rw [mul_tr]
    exact orth_mul (TR_Dg l y).2 (TR_Dg k x).2 (by decide) (by decide)
  have m0 := mul_MOk (M3.turn k (Iv.of x)) (M3.turn l (Iv.of y))
  have i3 := mul_MIn (turn_Ok (of_Ok x) h) (turn_Ok (of_Ok y) h') (by decide) (by decide) i1 i2 TR_b TR_b (by decide) (o.rmb (M := (340282366920938463463374607431768211456 : Int) * (340282366920938463463374607431768211456 : Int)) (by decide))
  generalize M3.mul (M3.turn k (Iv.of x)) (M3.turn l (Iv.of y)) = m at *
  generalize RM.mul (TR k x) (TR l y) = X at *
  have b1 : RMB (65536 * (65536 * ((5192296858534827628530496329220096 : Int) * (5192296858534827628530496329220096 : Int)))) X := o.rmb (M := (340282366920938463463374607431768211456 : Int) * (340282366920938463463374607431768211456 : Int)) (by decide)
  constructor
  · have i4 := mul_MIn m0 m0.tr (by decide) (by decide) i3 i3.tr b1 b1.tr (by decide) (o.prod (by decide) (by decide))
    exact unit_within (mul_MOk _ _) i4 (by decide) o (by decide) (by decide) (by decide)
  · have i4 := mul_MIn m0.tr m0 (by decide) (by decide) i3.tr i3 b1.tr b1 (by decide) (o'.prod (by decide) (by decide))
    exact unit_within (X := X.tr) (mul_MOk _ _) i4 (by decide) o' (by decide) (by decide) (by decide)
end Go.Sx

/- Plain laws of poses: rotations that hold a nearly orthogonal matrix; the neutral pose. No condition. -/
import Derived.Test.YtonampcmhhhffaaPose
namespace Go.Sx
def R3.add (a b : R3) : R3 := ⟨a.x + b.x, a.y + b.y, a.z + b.z⟩
def R3.neg (a : R3) : R3 := ⟨-a.x, -a.y, -a.z⟩
def R3.scale (a : R3) (k : Int) : R3 := ⟨a.x * k, a.y * k, a.z * k⟩
def Z3.r (z : Z3) : R3 := ⟨z.x, z.y, z.z⟩
theorem In.scale {I : Iv} {m x k : Int} (h : In I m x) (hk : 0 ≤ k) : In I (m * k) (x * k) :=
  ⟨by rw [← Int.mul_assoc]; exact Int.mul_le_mul_of_nonneg_right h.lo hk, by rw [← Int.mul_assoc]; exact Int.mul_le_mul_of_nonneg_right h.hi hk⟩
theorem VIn.scale {v : V3} {m k : Int} {x : R3} (h : VIn v m x) (hk : 0 ≤ k) : VIn v (m * k) (x.scale k) := ⟨h.x.scale hk, h.y.scale hk, h.z.scale hk⟩
theorem VIn.neg {v : V3} {m : Int} {x : R3} (o : VOk v) (h : VIn v m x) : VIn (V3.neg v) m x.neg := ⟨neg_In o.x h.x, neg_In o.y h.y, neg_In o.z h.z⟩
theorem VOk.neg {v : V3} (o : VOk v) : VOk (V3.neg v) := ⟨neg_Ok o.x, neg_Ok o.y, neg_Ok o.z⟩
theorem add_VOk (a b : V3) : VOk (V3.add a b) := ⟨add_Ok _ _, add_Ok _ _, add_Ok _ _⟩
theorem apply_VOk (a : M3) (b : V3) : VOk (M3.apply a b) := ⟨dot_Ok _ _, dot_Ok _ _, dot_Ok _ _⟩
theorem of_VOk (z : Z3) : VOk (V3.of z) := ⟨of_Ok _, of_Ok _, of_Ok _⟩
theorem VIn.add {a b : V3} {m B : Int} {x y : R3} (va : VOk a) (vb : VOk b) (hm : 0 ≤ m) (hx : VIn a m x) (hy : VIn b m y) (h : RB (B * m) (x.add y)) (hB : B ≤ 2147483648) : VIn (V3.add a b) m (x.add y) := by
  have hb := Int.mul_le_mul_of_nonneg_right hB hm
  have h1 := h.x
  have h2 := h.y
  have h3 := h.z
  simp only [R3.add] at h1 h2 h3
  exact ⟨add_In va.x vb.x hm hx.x hy.x (by omega) (by omega), add_In va.y vb.y hm hx.y hy.y (by omega) (by omega), add_In va.z vb.z hm hx.z hy.z (by omega) (by omega)⟩
theorem pt_In {z : Z3} {B m : Int} (h : RB B z.r) (hB : B ≤ 2147483648) (hm : 0 ≤ m) : VIn (V3.of z) m (z.r.scale m) := by
  have h1 := h.x
  have h2 := h.y
  have h3 := h.z
  simp only [Z3.r] at h1 h2 h3
  have v : VIn (V3.of z) 1 z.r := ⟨of_In (by omega), of_In (by omega), of_In (by omega)⟩
  have := v.scale hm
  rwa [Int.one_mul] at this
theorem RB.scale {r : R3} {B k : Int} (h : RB B r) (hk : 0 ≤ k) : RB (B * k) (r.scale k) := by
  have e : ∀ {y : Int}, -B ≤ y ∧ y ≤ B → -(B * k) ≤ y * k ∧ y * k ≤ B * k := fun {y} hy => by
    have h1 := Int.mul_le_mul_of_nonneg_right hy.1 hk
    have h2 := Int.mul_le_mul_of_nonneg_right hy.2 hk
    rw [Int.neg_mul] at h1
    exact ⟨h1, h2⟩
  exact ⟨e h.x, e h.y, e h.z⟩
theorem RB.add {a b : R3} {B C Z m : Int} (h : RB (B * m) a) (k : RB (C * m) b) (hD : B + C = Z) : RB (Z * m) (a.add b) := by
  subst hD
  rw [Int.add_mul]
  have h1 := h.x; have h2 := h.y; have h3 := h.z; have k1 := k.x; have k2 := k.y; have k3 := k.z
  exact ⟨by simp only [R3.add]; omega, by simp only [R3.add]; omega, by simp only [R3.add]; omega⟩
theorem RB.neg {a : R3} {B : Int} (h : RB B a) : RB B a.neg := by
  have h1 := h.x; have h2 := h.y; have h3 := h.z
  exact ⟨by simp only [R3.neg]; omega, by simp only [R3.neg]; omega, by simp only [R3.neg]; omega⟩

structure Rot (r : M3) (s T : Int) (X : RM) : Prop where
  pos : 0 < s
  ok : MOk r
  isin : MIn r s X
  o : Orth ((65536 * s) * (65536 * s)) T X
  o' : Orth ((65536 * s) * (65536 * s)) T X.tr
  c : ∀ a, R3.dot (X.tr.app a) (X.tr.app a) ≤ (65536 * s) * (65536 * s) * R3.dot a a
  c' : ∀ a, R3.dot (X.app a) (X.app a) ≤ (65536 * s) * (65536 * s) * R3.dot a a
  t0 : 0 ≤ T
  small : T * 1152921504606846976 ≤ (65536 * s) * (65536 * s)
theorem Rot.tr {r : M3} {s T : Int} {X : RM} (h : Rot r s T X) : Rot r.tr s T X.tr := ⟨h.pos, h.ok.tr, h.isin.tr, h.o', h.o, h.c', h.c, h.t0, h.small⟩
theorem Rot.rmb {r : M3} {s T : Int} {X : RM} (h : Rot r s T X) : RMB (65536 * s) X := h.o.rmb (by have := h.pos; omega)
theorem rot_dot {B C m k : Int} {x y : R3} (hx : RB (B * m) x) (hy : RB (C * k) y) : -(3 * (B * C) * (m * k)) ≤ R3.dot x y ∧ R3.dot x y ≤ 3 * (B * C) * (m * k) := by
  have p1 := abs_mul hx.x hy.x
  have p2 := abs_mul hx.y hy.y
  have p3 := abs_mul hx.z hy.z
  have e : 3 * (B * C) * (m * k) = B * m * (C * k) + B * m * (C * k) + B * m * (C * k) := by grind
  rw [e]
  unfold R3.dot
  omega
/-- the image of a vector -/
theorem Rot.app {r : M3} {s T : Int} {X : RM} (h : Rot r s T X) {v : V3} {k C : Int} {y : R3} (vo : VOk v) (hk : 0 ≤ k) (vi : VIn v k y) (vb : RB (C * k) y) (hC : 3 * (65536 * C) ≤ 140737488355328) :
    VIn (M3.apply r v) ((65536 * s) * k) (X.app y) ∧ RB ((3 * C) * ((65536 * s) * k)) (X.app y) := by
  have hs := h.pos
  have rb := h.rmb
  refine ⟨?_, ?_⟩
  · have := app_In h.ok vo (by omega) hk h.isin vi rb vb hC
    rwa [← Int.mul_assoc] at this
  · have d : ∀ {u : R3}, RB (65536 * s) u → -(3 * C * (65536 * s * k)) ≤ R3.dot u y ∧ R3.dot u y ≤ 3 * C * (65536 * s * k) := fun hu => by
      have := rot_dot hu vb
      have e : 3 * (65536 * C) * (s * k) = 3 * C * (65536 * s * k) := by grind
      rwa [e] at this
    exact ⟨d rb.x, d rb.y, d rb.z⟩
theorem pt_within {I : Iv} {S T r c : Int} (v : Ok I) (h : In I S r) (hS : 0 < S) (hc : -2147483648 ≤ c ∧ c ≤ 2147483648) (h1 : c * S - T ≤ r) (h2 : r ≤ c * S + T) (hT : T < S) : Iv.within (Iv.of c) I = true := by
  obtain ⟨a1, a2⟩ := h
  have l1 : I.lo ≤ c := by
    rcases Int.lt_or_le c I.lo with g | g
    · have := Int.mul_le_mul_of_nonneg_right (show c + 1 ≤ I.lo by omega) (Int.le_of_lt hS)
      rw [Int.add_mul] at this
      omega
    · exact g
  have l2 : c ≤ I.hi := by
    rcases Int.lt_or_le I.hi c with g | g
    · have := Int.mul_le_mul_of_nonneg_right (show I.hi ≤ c - 1 by omega) (Int.le_of_lt hS)
      rw [Int.sub_mul] at this
      omega
    · exact g
  rw [of_id hc]
  have vc : Iv.valid ⟨c, c⟩ = true := by simp [Iv.valid]; omega
  simp only [Iv.within, vc, valid_of v, Bool.true_and, Bool.and_eq_true, decide_eq_true_eq]
  exact ⟨l1, l2⟩
/-- y is nearly S times v -/
structure Nearly (S T : Int) (u : R3) (v : Z3) : Prop where
  x : v.x * S - T ≤ u.x ∧ u.x ≤ v.x * S + T
  y : v.y * S - T ≤ u.y ∧ u.y ≤ v.y * S + T
  z : v.z * S - T ≤ u.z ∧ u.z ≤ v.z * S + T
theorem vec_within {v : Z3} {w : V3} {S T B : Int} {y : R3} (vo : VOk w) (h : VIn w S y) (hS : 0 < S) (hv : RB B v.r) (hB : B ≤ 2147483648) (n : Nearly S T y v) (hT : T < S) : V3.within (V3.of v) w = true := by
  have h1 := hv.x; have h2 := hv.y; have h3 := hv.z
  simp only [Z3.r] at h1 h2 h3
  simp only [V3.within, V3.of, pt_within vo.x h.x hS (by omega) n.x.1 n.x.2 hT, pt_within vo.y h.y hS (by omega) n.y.1 n.y.2 hT, pt_within vo.z h.z hS (by omega) n.z.1 n.z.2 hT, Bool.and_self]
theorem xxt {X : RM} {Q T B : Int} {v : Z3} (o : Orth Q T X) (hv : RB B v.r) : Nearly Q (T * (3 * B)) (X.app (X.tr.app v.r)) v := by
  have h1 := hv.x; have h2 := hv.y; have h3 := hv.z
  simp only [Z3.r] at h1 h2 h3
  have key : ∀ {p q r a b c : Int}, -T ≤ p ∧ p ≤ T → -T ≤ q ∧ q ≤ T → -T ≤ r ∧ r ≤ T → -B ≤ a ∧ a ≤ B → -B ≤ b ∧ b ≤ B → -B ≤ c ∧ c ≤ B → -(T * (3 * B)) ≤ a * p + b * q + c * r ∧ a * p + b * q + c * r ≤ T * (3 * B) := by
    intro p q r a b c hp hq hr ha hb hc
    have m1 := abs_mul ha hp
    have m2 := abs_mul hb hq
    have m3 := abs_mul hc hr
    have e : T * (3 * B) = B * T + B * T + B * T := by grind
    omega
  have ox := o.x; have oy := o.y; have oz := o.z
  have c1 := dot_comm X.x X.y
  have c2 := dot_comm X.x X.z
  have c3 := dot_comm X.y X.z
  have pxy := o.xy; have pxz := o.xz; have pyz := o.yz
  have e1 : (X.app (X.tr.app v.r)).x = v.x * Q + (v.x * (R3.dot X.x X.x - Q) + v.y * R3.dot X.x X.y + v.z * R3.dot X.x X.z) := by simp only [RM.app, RM.tr, R3.dot, Z3.r]; grind
  have e2 : (X.app (X.tr.app v.r)).y = v.y * Q + (v.x * R3.dot X.x X.y + v.y * (R3.dot X.y X.y - Q) + v.z * R3.dot X.y X.z) := by simp only [RM.app, RM.tr, R3.dot, Z3.r]; grind
  have e3 : (X.app (X.tr.app v.r)).z = v.z * Q + (v.x * R3.dot X.x X.z + v.y * R3.dot X.y X.z + v.z * (R3.dot X.z X.z - Q)) := by simp only [RM.app, RM.tr, R3.dot, Z3.r]; grind
  have k1 := key (p := R3.dot X.x X.x - Q) (q := R3.dot X.x X.y) (r := R3.dot X.x X.z) (by have := o.x; omega) pxy pxz h1 h2 h3
  have k2 := key (p := R3.dot X.x X.y) (q := R3.dot X.y X.y - Q) (r := R3.dot X.y X.z) pxy (by omega) pyz h1 h2 h3
  have k3 := key (p := R3.dot X.x X.z) (q := R3.dot X.y X.z) (r := R3.dot X.z X.z - Q) pxz pyz (by omega) h1 h2 h3
  exact ⟨by rw [e1]; omega, by rw [e2]; omega, by rw [e3]; omega⟩

/-! ### the neutral pose -/
structure Lm (a : Iv) : Prop where
  ok : Ok a
  lo : -65536 ≤ a.lo
  hi : a.hi ≤ 65536
structure VLm (v : V3) : Prop where
  x : Lm v.x
  y : Lm v.y
  z : Lm v.z
structure MLm (v : M3) : Prop where
  x : VLm v.x
  y : VLm v.y
  z : VLm v.z
theorem MLm.ok {m : M3} (h : MLm m) : MOk m := ⟨⟨h.x.x.ok, h.x.y.ok, h.x.z.ok⟩, ⟨h.y.x.ok, h.y.y.ok, h.y.z.ok⟩, ⟨h.z.x.ok, h.z.y.ok, h.z.z.ok⟩⟩
theorem lim_Lm {a : Iv} (h : Ok a) : Lm (limV a) := ⟨lim_Ok h, by simp only [limV, limI]; omega, by simp only [limV, limI]; omega⟩
theorem mul_MLm (a b : M3) : MLm (M3.mul a b) :=
  ⟨⟨lim_Lm (dot_Ok _ _), lim_Lm (dot_Ok _ _), lim_Lm (dot_Ok _ _)⟩, ⟨lim_Lm (dot_Ok _ _), lim_Lm (dot_Ok _ _), lim_Lm (dot_Ok _ _)⟩, ⟨lim_Lm (dot_Ok _ _), lim_Lm (dot_Ok _ _), lim_Lm (dot_Ok _ _)⟩⟩
theorem one_Lm : Lm iv1 := ⟨one_Ok, by decide, by decide⟩
theorem zero_Lm : Lm iv0 := ⟨zero_Ok, by decide, by decide⟩
theorem unit_MLm : MLm M3.unit := ⟨⟨one_Lm, zero_Lm, zero_Lm⟩, ⟨zero_Lm, one_Lm, zero_Lm⟩, ⟨zero_Lm, zero_Lm, one_Lm⟩⟩
theorem turn_MLm {k : Int} {a : Iv} (v : Ok a) (hk : 0 ≤ k ∧ k < 3) : MLm (M3.turn k a) := by
  have h : k = 0 ∨ k = 1 ∨ k = 2 := by omega
  have cb := cosOver_b v
  have sb := sinOver_b v
  have c : Lm (cosOverI a) := ⟨by unfold Ok; omega, by omega, by omega⟩
  have so : Ok (sinOverI a) := by unfold Ok; omega
  have s : Lm (sinOverI a) := ⟨so, by omega, by omega⟩
  have t : Lm (Iv.neg (sinOverI a)) := ⟨neg_Ok so, by rw [neg_of so]; simp only; omega, by rw [neg_of so]; simp only; omega⟩
  rw [turn_at v h]
  rcases h with h | h | h <;> subst h
  · exact ⟨⟨one_Lm, zero_Lm, zero_Lm⟩, ⟨zero_Lm, c, t⟩, ⟨zero_Lm, s, c⟩⟩
  · exact ⟨⟨c, zero_Lm, s⟩, ⟨zero_Lm, one_Lm, zero_Lm⟩, ⟨t, zero_Lm, c⟩⟩
  · exact ⟨⟨c, t, zero_Lm⟩, ⟨s, c, zero_Lm⟩, ⟨zero_Lm, zero_Lm, one_Lm⟩⟩
theorem mul_one_r {a : Iv} (h : Ok a) : Iv.mul a iv1 = a ∧ Iv.mul iv1 a = a := by
  have v := valid_of h
  have v1 : Iv.valid ⟨65536, 65536⟩ = true := by decide
  unfold Ok at h
  have c1 := ceil_mul (k := a.hi) (b := 65536) (by decide)
  constructor
  · simp only [Iv.mul, v, v1, Bool.and_self, cond_true, iv1]
    rw [show min4 (a.lo * 65536) (a.lo * 65536) (a.hi * 65536) (a.hi * 65536) = a.lo * 65536 by unfold min4; omega, show max4 (a.lo * 65536) (a.lo * 65536) (a.hi * 65536) (a.hi * 65536) = 65536 * a.hi by unfold max4; omega, c1, Int.mul_ediv_cancel _ (by decide), clampI_id (by omega), clampI_id (by omega)]
  · simp only [Iv.mul, v, v1, Bool.and_self, cond_true, iv1]
    rw [show min4 (65536 * a.lo) (65536 * a.hi) (65536 * a.lo) (65536 * a.hi) = a.lo * 65536 by unfold min4; omega, show max4 (65536 * a.lo) (65536 * a.hi) (65536 * a.lo) (65536 * a.hi) = 65536 * a.hi by unfold max4; omega, c1, Int.mul_ediv_cancel _ (by decide), clampI_id (by omega), clampI_id (by omega)]
theorem mul_zero_r {a : Iv} (h : Ok a) : Iv.mul a iv0 = iv0 ∧ Iv.mul iv0 a = iv0 := by
  have v := valid_of h
  have v1 : Iv.valid ⟨0, 0⟩ = true := by decide
  constructor
  · simp only [Iv.mul, v, v1, Bool.and_self, cond_true, iv0, Int.mul_zero]; rfl
  · simp only [Iv.mul, v, v1, Bool.and_self, cond_true, iv0, Int.zero_mul]; rfl
theorem add_zero_r {a : Iv} (h : Ok a) : Iv.add a iv0 = a ∧ Iv.add iv0 a = a := by
  have v := valid_of h
  have v1 : Iv.valid ⟨0, 0⟩ = true := by decide
  unfold Ok at h
  constructor
  · simp only [Iv.add, v, v1, Bool.and_self, cond_true, iv0, Int.add_zero]; rw [clampI_id (by omega), clampI_id (by omega)]
  · simp only [Iv.add, v, v1, Bool.and_self, cond_true, iv0, Int.zero_add]; rw [clampI_id (by omega), clampI_id (by omega)]
theorem lim_id {a : Iv} (h : Lm a) : limV a = a := by
  have h1 := h.lo; have h2 := h.hi; have h3 := h.ok
  unfold Ok at h3
  unfold limV limI
  have e1 : min (max a.lo (-65536)) 65536 = a.lo := by omega
  have e2 : min (max a.hi (-65536)) 65536 = a.hi := by omega
  rw [e1, e2]
theorem unit_mul {m : M3} (h : MLm m) : M3.mul M3.unit m = m := by
  obtain ⟨⟨⟨_, _⟩, ⟨_, _⟩, ⟨_, _⟩⟩, ⟨⟨_, _⟩, ⟨_, _⟩, ⟨_, _⟩⟩, ⟨⟨_, _⟩, ⟨_, _⟩, ⟨_, _⟩⟩⟩ := m
  simp only [M3.mul, M3.row, V3.dot, M3.tr, M3.unit, (mul_one_r h.x.x.ok).2, (mul_one_r h.x.y.ok).2, (mul_one_r h.x.z.ok).2, (mul_one_r h.y.x.ok).2, (mul_one_r h.y.y.ok).2, (mul_one_r h.y.z.ok).2, (mul_one_r h.z.x.ok).2, (mul_one_r h.z.y.ok).2, (mul_one_r h.z.z.ok).2,
    (mul_zero_r h.x.x.ok).2, (mul_zero_r h.x.y.ok).2, (mul_zero_r h.x.z.ok).2, (mul_zero_r h.y.x.ok).2, (mul_zero_r h.y.y.ok).2, (mul_zero_r h.y.z.ok).2, (mul_zero_r h.z.x.ok).2, (mul_zero_r h.z.y.ok).2, (mul_zero_r h.z.z.ok).2,
    (add_zero_r h.x.x.ok).1, (add_zero_r h.x.y.ok).1, (add_zero_r h.x.z.ok).1, (add_zero_r h.y.x.ok).1, (add_zero_r h.y.y.ok).1, (add_zero_r h.y.z.ok).1, (add_zero_r h.z.x.ok).1, (add_zero_r h.z.y.ok).1, (add_zero_r h.z.z.ok).1,
    (add_zero_r h.x.x.ok).2, (add_zero_r h.x.y.ok).2, (add_zero_r h.x.z.ok).2, (add_zero_r h.y.x.ok).2, (add_zero_r h.y.y.ok).2, (add_zero_r h.y.z.ok).2, (add_zero_r h.z.x.ok).2, (add_zero_r h.z.y.ok).2, (add_zero_r h.z.z.ok).2, (add_zero_r zero_Ok).1,
    lim_id h.x.x, lim_id h.x.y, lim_id h.x.z, lim_id h.y.x, lim_id h.y.y, lim_id h.y.z, lim_id h.z.x, lim_id h.z.y, lim_id h.z.z]
theorem mul_unit {m : M3} (h : MLm m) : M3.mul m M3.unit = m := by
  obtain ⟨⟨⟨_, _⟩, ⟨_, _⟩, ⟨_, _⟩⟩, ⟨⟨_, _⟩, ⟨_, _⟩, ⟨_, _⟩⟩, ⟨⟨_, _⟩, ⟨_, _⟩, ⟨_, _⟩⟩⟩ := m
  simp only [M3.mul, M3.row, V3.dot, M3.tr, M3.unit, (mul_one_r h.x.x.ok).1, (mul_one_r h.x.y.ok).1, (mul_one_r h.x.z.ok).1, (mul_one_r h.y.x.ok).1, (mul_one_r h.y.y.ok).1, (mul_one_r h.y.z.ok).1, (mul_one_r h.z.x.ok).1, (mul_one_r h.z.y.ok).1, (mul_one_r h.z.z.ok).1,
    (mul_zero_r h.x.x.ok).1, (mul_zero_r h.x.y.ok).1, (mul_zero_r h.x.z.ok).1, (mul_zero_r h.y.x.ok).1, (mul_zero_r h.y.y.ok).1, (mul_zero_r h.y.z.ok).1, (mul_zero_r h.z.x.ok).1, (mul_zero_r h.z.y.ok).1, (mul_zero_r h.z.z.ok).1,
    (add_zero_r h.x.x.ok).1, (add_zero_r h.x.y.ok).1, (add_zero_r h.x.z.ok).1, (add_zero_r h.y.x.ok).1, (add_zero_r h.y.y.ok).1, (add_zero_r h.y.z.ok).1, (add_zero_r h.z.x.ok).1, (add_zero_r h.z.y.ok).1, (add_zero_r h.z.z.ok).1,
    (add_zero_r h.x.x.ok).2, (add_zero_r h.x.y.ok).2, (add_zero_r h.x.z.ok).2, (add_zero_r h.y.x.ok).2, (add_zero_r h.y.y.ok).2, (add_zero_r h.y.z.ok).2, (add_zero_r h.z.x.ok).2, (add_zero_r h.z.y.ok).2, (add_zero_r h.z.z.ok).2, (add_zero_r zero_Ok).1,
    lim_id h.x.x, lim_id h.x.y, lim_id h.x.z, lim_id h.y.x, lim_id h.y.y, lim_id h.y.z, lim_id h.z.x, lim_id h.z.y, lim_id h.z.z]
theorem unit_apply {v : V3} (h : VOk v) : M3.apply M3.unit v = v := by
  obtain ⟨⟨_, _⟩, ⟨_, _⟩, ⟨_, _⟩⟩ := v
  simp only [M3.apply, V3.dot, M3.unit, (mul_one_r h.x).2, (mul_one_r h.y).2, (mul_one_r h.z).2, (mul_zero_r h.x).2, (mul_zero_r h.y).2, (mul_zero_r h.z).2, (add_zero_r h.x).1, (add_zero_r h.y).1, (add_zero_r h.z).1, (add_zero_r h.x).2, (add_zero_r h.y).2, (add_zero_r h.z).2, (add_zero_r zero_Ok).1]
theorem apply_zero {m : M3} (h : MOk m) : M3.apply m V3.zero = V3.zero := by
  simp only [M3.apply, V3.dot, V3.zero, (mul_zero_r h.x.x).1, (mul_zero_r h.x.y).1, (mul_zero_r h.x.z).1, (mul_zero_r h.y.x).1, (mul_zero_r h.y.y).1, (mul_zero_r h.y.z).1, (mul_zero_r h.z.x).1, (mul_zero_r h.z.y).1, (mul_zero_r h.z.z).1, (add_zero_r zero_Ok).1]
theorem add_Vzero {v : V3} (h : VOk v) : V3.add v V3.zero = v ∧ V3.add V3.zero v = v := by
  obtain ⟨⟨_, _⟩, ⟨_, _⟩, ⟨_, _⟩⟩ := v
  exact ⟨by simp only [V3.add, V3.zero, (add_zero_r h.x).1, (add_zero_r h.y).1, (add_zero_r h.z).1], by simp only [V3.add, V3.zero, (add_zero_r h.x).2, (add_zero_r h.y).2, (add_zero_r h.z).2]⟩
structure PLm (p : Po) : Prop where
  r : MLm p.r
  t : VOk p.t
theorem neutral {p : Po} (h : PLm p) : Po.mul p Po.rest = p ∧ Po.mul Po.rest p = p ∧ Po.app Po.rest p.t = p.t := by
  refine ⟨?_, ?_, ?_⟩
  · simp only [Po.mul, Po.rest, Po.app, mul_unit h.r, apply_zero h.r.ok, (add_Vzero h.t).1]
  · simp only [Po.mul, Po.rest, Po.app, unit_mul h.r, unit_apply h.t, (add_Vzero h.t).2]
  · simp only [Po.rest, Po.app, unit_apply h.t, (add_Vzero h.t).2]
theorem shift_shift {x y : V3} (hy : VOk y) : Po.mul (Po.shift x) (Po.shift y) = Po.shift (V3.add x y) := by
  simp only [Po.mul, Po.shift, Po.app, unit_mul unit_MLm, unit_apply hy]
theorem shift_pose {x : V3} {p : Po} (h : PLm p) : Po.mul (Po.shift x) p = ⟨p.r, V3.add x p.t⟩ := by
  simp only [Po.mul, Po.shift, Po.app, unit_mul h.r, unit_apply h.t]
end Go.Sx

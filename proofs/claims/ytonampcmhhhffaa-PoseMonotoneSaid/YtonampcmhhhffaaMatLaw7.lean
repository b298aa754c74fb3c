/- Plain laws: parts of arguments give parts of results; intervals that are made, parts of intervals. No condition. -/
import Derived.Test.YtonampcmhhhffaaMatLaw6
namespace Go.Sx
structure Sub (a b : Iv) : Prop where
  ok : Ok a
  ok' : Ok b
  lo : b.lo ≤ a.lo
  hi : a.hi ≤ b.hi
theorem Sub.within {a b : Iv} (h : Sub a b) : Iv.within a b = true := by
  simp only [Iv.within, valid_of h.ok, valid_of h.ok', Bool.true_and, Bool.and_eq_true, decide_eq_true_eq]
  exact ⟨h.lo, h.hi⟩
theorem Sub.refl {a : Iv} (h : Ok a) : Sub a a := ⟨h, h, Int.le_refl _, Int.le_refl _⟩
theorem Sub.trans {a b c : Iv} (h : Sub a b) (k : Sub b c) : Sub a c := ⟨h.ok, k.ok', by have := h.lo; have := k.lo; omega, by have := h.hi; have := k.hi; omega⟩
theorem in1 {a b : Iv} (h : Sub a b) {x : Int} (h1 : a.lo ≤ x) (h2 : x ≤ a.hi) : In b 1 x := ⟨by have := h.lo; omega, by have := h.hi; omega⟩
theorem sub_mul {a a' b b' : Iv} (h : Sub a a') (k : Sub b b') : Sub (Iv.mul a b) (Iv.mul a' b') := by
  refine ⟨mul_Ok _ _, mul_Ok _ _, ?_, ?_⟩
  all_goals
    have va := h.ok
    have vb := k.ok
    have p1 := mul_prod (by decide) (by decide) (in1 h (x := a.lo) (Int.le_refl _) va.2.1) (in1 k (x := b.lo) (Int.le_refl _) vb.2.1)
    have p2 := mul_prod (by decide) (by decide) (in1 h (x := a.lo) (Int.le_refl _) va.2.1) (in1 k (x := b.hi) vb.2.1 (Int.le_refl _))
    have p3 := mul_prod (by decide) (by decide) (in1 h (x := a.hi) va.2.1 (Int.le_refl _)) (in1 k (x := b.lo) (Int.le_refl _) vb.2.1)
    have p4 := mul_prod (by decide) (by decide) (in1 h (x := a.hi) va.2.1 (Int.le_refl _)) (in1 k (x := b.hi) vb.2.1 (Int.le_refl _))
    simp only [Iv.mul, valid_of h.ok, valid_of h.ok', valid_of k.ok, valid_of k.ok', Bool.and_self, cond_true]
    simp only [Int.mul_one] at p1 p2 p3 p4
    refine clamp_mono ?_
  · have : min4 (a'.lo * b'.lo) (a'.lo * b'.hi) (a'.hi * b'.lo) (a'.hi * b'.hi) ≤ min4 (a.lo * b.lo) (a.lo * b.hi) (a.hi * b.lo) (a.hi * b.hi) := by
      generalize min4 (a'.lo * b'.lo) (a'.lo * b'.hi) (a'.hi * b'.lo) (a'.hi * b'.hi) = m at *
      unfold min4; omega
    omega
  · have : max4 (a.lo * b.lo) (a.lo * b.hi) (a.hi * b.lo) (a.hi * b.hi) ≤ max4 (a'.lo * b'.lo) (a'.lo * b'.hi) (a'.hi * b'.lo) (a'.hi * b'.hi) := by
      generalize max4 (a'.lo * b'.lo) (a'.lo * b'.hi) (a'.hi * b'.lo) (a'.hi * b'.hi) = m at *
      unfold max4; omega
    unfold ceilI
    omega
theorem sub_add {a a' b b' : Iv} (h : Sub a a') (k : Sub b b') : Sub (Iv.add a b) (Iv.add a' b') := by
  have h1 := h.lo; have h2 := h.hi; have k1 := k.lo; have k2 := k.hi
  refine ⟨add_Ok _ _, add_Ok _ _, ?_, ?_⟩ <;> simp only [Iv.add, valid_of h.ok, valid_of h.ok', valid_of k.ok, valid_of k.ok', Bool.and_self, cond_true] <;> exact clamp_mono (by omega)
theorem sub_sub {a a' b b' : Iv} (h : Sub a a') (k : Sub b b') : Sub (Iv.sub a b) (Iv.sub a' b') := by
  have h1 := h.lo; have h2 := h.hi; have k1 := k.lo; have k2 := k.hi
  refine ⟨sub_Ok _ _, sub_Ok _ _, ?_, ?_⟩ <;> simp only [Iv.sub, valid_of h.ok, valid_of h.ok', valid_of k.ok, valid_of k.ok', Bool.and_self, cond_true] <;> exact clamp_mono (by omega)
theorem sub_neg {a a' : Iv} (h : Sub a a') : Sub (Iv.neg a) (Iv.neg a') := by
  have h1 := h.lo; have h2 := h.hi
  refine ⟨neg_Ok h.ok, neg_Ok h.ok', ?_, ?_⟩ <;> rw [neg_of h.ok, neg_of h.ok'] <;> simp only <;> omega
theorem sub_lim {a a' : Iv} (h : Sub a a') : Sub (limV a) (limV a') := by
  have h1 := h.lo; have h2 := h.hi
  exact ⟨lim_Ok h.ok, lim_Ok h.ok', by simp only [limV, limI]; omega, by simp only [limV, limI]; omega⟩
structure VSub (a b : V3) : Prop where
  x : Sub a.x b.x
  y : Sub a.y b.y
  z : Sub a.z b.z
structure MSub (a b : M3) : Prop where
  x : VSub a.x b.x
  y : VSub a.y b.y
  z : VSub a.z b.z
theorem VSub.refl {a : V3} (h : VOk a) : VSub a a := ⟨.refl h.x, .refl h.y, .refl h.z⟩
theorem MSub.refl {a : M3} (h : MOk a) : MSub a a := ⟨.refl h.x, .refl h.y, .refl h.z⟩
theorem VSub.within {a b : V3} (h : VSub a b) : V3.within a b = true := by simp only [V3.within, h.x.within, h.y.within, h.z.within, Bool.and_self]
theorem MSub.within {a b : M3} (h : MSub a b) : M3.within a b = true := by simp only [M3.within, h.x.within, h.y.within, h.z.within, Bool.and_self]
theorem MSub.tr {a b : M3} (h : MSub a b) : MSub a.tr b.tr := ⟨⟨h.x.x, h.y.x, h.z.x⟩, ⟨h.x.y, h.y.y, h.z.y⟩, ⟨h.x.z, h.y.z, h.z.z⟩⟩
theorem sub_dot {a a' b b' : V3} (h : VSub a a') (k : VSub b b') : Sub (V3.dot a b) (V3.dot a' b') := sub_add (sub_add (sub_mul h.x k.x) (sub_mul h.y k.y)) (sub_mul h.z k.z)
theorem sub_apply {a a' : M3} {b b' : V3} (h : MSub a a') (k : VSub b b') : VSub (M3.apply a b) (M3.apply a' b') := ⟨sub_dot h.x k, sub_dot h.y k, sub_dot h.z k⟩
theorem sub_row {a a' : V3} {b b' : M3} (h : VSub a a') (k : MSub b b') : VSub (M3.row a b) (M3.row a' b') := ⟨sub_lim (sub_dot h k.tr.x), sub_lim (sub_dot h k.tr.y), sub_lim (sub_dot h k.tr.z)⟩
theorem sub_Mmul {a a' b b' : M3} (h : MSub a a') (k : MSub b b') : MSub (M3.mul a b) (M3.mul a' b') := ⟨sub_row h.x k, sub_row h.y k, sub_row h.z k⟩
theorem sub_Vadd {a a' b b' : V3} (h : VSub a a') (k : VSub b b') : VSub (V3.add a b) (V3.add a' b') := ⟨sub_add h.x k.x, sub_add h.y k.y, sub_add h.z k.z⟩
theorem sub_Vsub {a a' b b' : V3} (h : VSub a a') (k : VSub b b') : VSub (V3.sub a b) (V3.sub a' b') := ⟨sub_sub h.x k.x, sub_sub h.y k.y, sub_sub h.z k.z⟩
theorem sub_sin {a a' : Iv} (h : Sub a a') : Sub (sinOverI a) (sinOverI a') := by
  have b1 := sinOver_b h.ok
  have b2 := sinOver_b h.ok'
  have n := ov_nested (c := 0) h.ok' ⟨h.lo, h.ok.2.1, h.hi⟩
  rw [sinOver_ov, sinOver_ov] at *
  exact ⟨by unfold Ok; omega, by unfold Ok; omega, n.1, n.2⟩
theorem sub_cos {a a' : Iv} (h : Sub a a') : Sub (cosOverI a) (cosOverI a') := by
  have b1 := cosOver_b h.ok
  have b2 := cosOver_b h.ok'
  have n := ov_nested (c := 16384) h.ok' ⟨h.lo, h.ok.2.1, h.hi⟩
  rw [cosOver_ov, cosOver_ov] at *
  exact ⟨by unfold Ok; omega, by unfold Ok; omega, n.1, n.2⟩
theorem sub_turn {k : Int} {a a' : Iv} (hk : 0 ≤ k ∧ k < 3) (h : Sub a a') : MSub (M3.turn k a) (M3.turn k a') := by
  have hk' : k = 0 ∨ k = 1 ∨ k = 2 := by omega
  rw [turn_at h.ok hk', turn_at h.ok' hk']
  have s := sub_sin h
  have c := sub_cos h
  have t := sub_neg s
  have o := Sub.refl one_Ok
  have z := Sub.refl zero_Ok
  rcases hk' with e | e | e <;> subst e
  · exact ⟨⟨o, z, z⟩, ⟨z, c, t⟩, ⟨z, s, c⟩⟩
  · exact ⟨⟨c, z, s⟩, ⟨z, o, z⟩, ⟨t, z, c⟩⟩
  · exact ⟨⟨c, t, z⟩, ⟨s, c, z⟩, ⟨z, z, o⟩⟩

/-! ### intervals that are made -/
theorem part_sub {a : Iv} (v : Ok a) (m k : Int) : Sub (partI a m k) a := by
  have h := part_in m k v.2.1
  unfold Ok at v
  exact ⟨by unfold Ok; omega, v, h.1, h.2.2⟩
def ivK (a : Int) : Int := 2 ^ (4 + (a / 8) % 27).toNat
def intervalI (a b : Int) : Iv :=
  let k := ivK a
  let x := a % (2 * k + 1) - k
  let y := bif decide (b % 2 = 0) then x + (b / 2) % (1 + k / 8) else b % (2 * k + 1) - k
  ⟨min (clampI x) (clampI y), max (clampI x) (clampI y)⟩
theorem ivK_bnd (a : Int) : 16 ≤ ivK a ∧ ivK a ≤ 1073741824 := by
  unfold ivK
  have h1 := Int.emod_nonneg (a / 8) (show (27 : Int) ≠ 0 by decide)
  have h2 := Int.emod_lt_of_pos (a / 8) (show (0 : Int) < 27 by decide)
  generalize hq : (4 + a / 8 % 27).toNat = q
  have hq1 : 4 ≤ q := by omega
  have hq2 : q ≤ 30 := by omega
  have e : (2 : Int) ^ q = ((2 ^ q : Nat) : Int) := by simp
  have p1 : (2 : Nat) ^ 4 ≤ 2 ^ q := Nat.pow_le_pow_right (by decide) hq1
  have p2 : (2 : Nat) ^ q ≤ 2 ^ 30 := Nat.pow_le_pow_right (by decide) hq2
  rw [e]
  omega
theorem interval_Ok (a b : Int) : Ok (intervalI a b) := by
  unfold intervalI
  have h1 := clamp_bnd (a % (2 * ivK a + 1) - ivK a)
  have h2 := clamp_bnd (bif decide (b % 2 = 0) then a % (2 * ivK a + 1) - ivK a + (b / 2) % (1 + ivK a / 8) else b % (2 * ivK a + 1) - ivK a)
  exact ⟨by simp only; omega, by simp only; omega, by simp only; omega⟩
theorem iv_Ok (L : List Int) (i : Nat) : Ok (ivOf L i) := by
  have h1 := srcS_bnd L i (k := 327680) (by decide)
  have h2 := prod_b (srcR_bnd L (i + 1) (k := 3) (by decide)) (srcR_bnd L (i + 2) (k := 40000) (by decide))
  unfold ivOf
  exact ⟨by simp only; omega, by simp only; omega, by simp only; omega⟩
theorem vec_Ok (L : List Int) (i : Nat) : VOk (vecOf L i) := ⟨iv_Ok _ _, iv_Ok _ _, iv_Ok _ _⟩
theorem turnOf_Ok (L : List Int) (i : Nat) : MOk (turnOf L i) := by
  have h1 := srcS_bnd L i (k := 70000) (by decide)
  have h2 := prod_b (srcR_bnd L (i + 2) (k := 3) (by decide)) (srcR_bnd L (i + 3) (k := 9000) (by decide))
  have h3 := srcR_bnd L (i + 1) (k := 3) (by decide)
  exact turn_Ok ⟨by simp only; omega, by simp only; omega, by simp only; omega⟩ (by omega)
end Go.Sx

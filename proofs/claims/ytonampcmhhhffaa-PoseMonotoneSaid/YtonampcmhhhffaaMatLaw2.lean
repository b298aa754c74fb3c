/- Intervals that hold scaled numbers, for vectors and matrices; rotations. No condition. -/
import Derived.Test.YtonampcmhhhffaaMatLaw
import Derived.Test.YtonampcmhhhffaaUnit4
namespace Go.Sx
structure R3 where
  x : Int
  y : Int
  z : Int
structure RM where
  x : R3
  y : R3
  z : R3
def R3.dot (a b : R3) : Int := a.x * b.x + a.y * b.y + a.z * b.z
def RM.tr (m : RM) : RM := ⟨⟨m.x.x, m.y.x, m.z.x⟩, ⟨m.x.y, m.y.y, m.z.y⟩, ⟨m.x.z, m.y.z, m.z.z⟩⟩
def RM.app (m : RM) (v : R3) : R3 := ⟨R3.dot m.x v, R3.dot m.y v, R3.dot m.z v⟩
def RM.mul (a b : RM) : RM := ⟨b.tr.app a.x, b.tr.app a.y, b.tr.app a.z⟩
structure VIn (v : V3) (m : Int) (r : R3) : Prop where
  x : In v.x m r.x
  y : In v.y m r.y
  z : In v.z m r.z
structure MIn (v : M3) (m : Int) (r : RM) : Prop where
  x : VIn v.x m r.x
  y : VIn v.y m r.y
  z : VIn v.z m r.z
structure VOk (v : V3) : Prop where
  x : Ok v.x
  y : Ok v.y
  z : Ok v.z
structure MOk (v : M3) : Prop where
  x : VOk v.x
  y : VOk v.y
  z : VOk v.z
structure RB (B : Int) (r : R3) : Prop where
  x : -B ≤ r.x ∧ r.x ≤ B
  y : -B ≤ r.y ∧ r.y ≤ B
  z : -B ≤ r.z ∧ r.z ≤ B
structure RMB (B : Int) (r : RM) : Prop where
  x : RB B r.x
  y : RB B r.y
  z : RB B r.z
theorem MIn.tr {v : M3} {m : Int} {r : RM} (h : MIn v m r) : MIn v.tr m r.tr := ⟨⟨h.x.x, h.y.x, h.z.x⟩, ⟨h.x.y, h.y.y, h.z.y⟩, ⟨h.x.z, h.y.z, h.z.z⟩⟩
theorem MOk.tr {v : M3} (h : MOk v) : MOk v.tr := ⟨⟨h.x.x, h.y.x, h.z.x⟩, ⟨h.x.y, h.y.y, h.z.y⟩, ⟨h.x.z, h.y.z, h.z.z⟩⟩
theorem RMB.tr {B : Int} {v : RM} (h : RMB B v) : RMB B v.tr := ⟨⟨h.x.x, h.y.x, h.z.x⟩, ⟨h.x.y, h.y.y, h.z.y⟩, ⟨h.x.z, h.y.z, h.z.z⟩⟩
theorem dot_Ok (a b : V3) : Ok (V3.dot a b) := add_Ok _ _
theorem dot_In {a b : V3} {m k B C : Int} {x y : R3} (va : VOk a) (vb : VOk b) (hm : 0 ≤ m) (hk : 0 ≤ k) (hx : VIn a m x) (hy : VIn b k y) (bx : RB (B * m) x) (by' : RB (C * k) y) (hB : 3 * (B * C) ≤ 140737488355328) :
    In (V3.dot a b) (65536 * (m * k)) (R3.dot x y) := by
  have hmk : 0 ≤ m * k := Int.mul_nonneg hm hk
  have p1 := abs_mul bx.x by'.x
  have p2 := abs_mul bx.y by'.y
  have p3 := abs_mul bx.z by'.z
  have e : B * m * (C * k) = B * C * (m * k) := by grind
  rw [e] at p1 p2 p3
  have h3 : 3 * (B * C) * (m * k) ≤ 140737488355328 * (m * k) := Int.mul_le_mul_of_nonneg_right hB hmk
  rw [Int.mul_assoc] at h3
  have pos : 0 ≤ B * C * (m * k) := by omega
  unfold V3.dot R3.dot
  have i1 := mul_In va.x vb.x hm hk hx.x hy.x (by omega) (by omega)
  have i2 := mul_In va.y vb.y hm hk hx.y hy.y (by omega) (by omega)
  have i3 := mul_In va.z vb.z hm hk hx.z hy.z (by omega) (by omega)
  have i4 := add_In (mul_Ok _ _) (mul_Ok _ _) (by omega) i1 i2 (by omega) (by omega)
  exact add_In (add_Ok _ _) (mul_Ok _ _) (by omega) i4 i3 (by omega) (by omega)
theorem lim_In {a : Iv} {m x : Int} (hm : 0 ≤ m) (h : In a m x) (h1 : -65536 * m ≤ x) (h2 : x ≤ 65536 * m) : In (limV a) m x := by
  have q1 := h.lo
  have q2 := h.hi
  unfold limV limI
  constructor
  · simp only
    rcases Int.le_total a.lo (-65536) with g | g
    · rw [show min (max a.lo (-65536)) 65536 = -65536 by omega]; exact h1
    · exact Int.le_trans (Int.mul_le_mul_of_nonneg_right (by omega) hm) q1
  · simp only
    rcases Int.le_total 65536 a.hi with g | g
    · rw [show min (max a.hi (-65536)) 65536 = 65536 by omega]; exact h2
    · exact Int.le_trans q2 (Int.mul_le_mul_of_nonneg_right (by omega) hm)
theorem lim_Ok {a : Iv} (h : Ok a) : Ok (limV a) := by
  unfold Ok limV limI at *; simp only; omega
theorem mul_MOk (a b : M3) : MOk (M3.mul a b) :=
  ⟨⟨lim_Ok (dot_Ok _ _), lim_Ok (dot_Ok _ _), lim_Ok (dot_Ok _ _)⟩, ⟨lim_Ok (dot_Ok _ _), lim_Ok (dot_Ok _ _), lim_Ok (dot_Ok _ _)⟩, ⟨lim_Ok (dot_Ok _ _), lim_Ok (dot_Ok _ _), lim_Ok (dot_Ok _ _)⟩⟩
theorem app_In {a : M3} {v : V3} {m k B C : Int} {x : RM} {y : R3} (va : MOk a) (vb : VOk v) (hm : 0 ≤ m) (hk : 0 ≤ k) (hx : MIn a m x) (hy : VIn v k y) (bx : RMB (B * m) x) (by' : RB (C * k) y) (hB : 3 * (B * C) ≤ 140737488355328) :
    VIn (M3.apply a v) (65536 * (m * k)) (RM.app x y) :=
  ⟨dot_In va.x vb hm hk hx.x hy bx.x by' hB, dot_In va.y vb hm hk hx.y hy bx.y by' hB, dot_In va.z vb hm hk hx.z hy bx.z by' hB⟩
theorem mul_MIn {a b : M3} {m k B C : Int} {x y : RM} (va : MOk a) (vb : MOk b) (hm : 0 ≤ m) (hk : 0 ≤ k) (hx : MIn a m x) (hy : MIn b k y) (bx : RMB (B * m) x) (by' : RMB (C * k) y) (hB : 3 * (B * C) ≤ 140737488355328)
    (hl : RMB (65536 * (65536 * (m * k))) (RM.mul x y)) : MIn (M3.mul a b) (65536 * (m * k)) (RM.mul x y) := by
  have hmk : 0 ≤ 65536 * (m * k) := Int.mul_nonneg (by decide) (Int.mul_nonneg hm hk)
  have row : ∀ {r : V3} {u : R3}, VOk r → VIn r m u → RB (B * m) u → RB (65536 * (65536 * (m * k))) (y.tr.app u) → VIn (M3.row r b) (65536 * (m * k)) (y.tr.app u) := fun {r u} hr hi hb hl => by
    have s : ∀ {c : V3} {d : R3}, R3.dot d u = R3.dot u d := fun {_ d} => by unfold R3.dot; grind
    have t := hy.tr
    have g := by'.tr
    have o := vb.tr
    refine ⟨lim_In hmk ?_ (by have := hl.x; omega) (by have := hl.x; omega), lim_In hmk ?_ (by have := hl.y; omega) (by have := hl.y; omega), lim_In hmk ?_ (by have := hl.z; omega) (by have := hl.z; omega)⟩
    · show In (V3.dot r b.tr.x) _ (R3.dot y.tr.x u)
      rw [s (c := r)]; exact dot_In hr o.x hm hk hi t.x hb g.x hB
    · show In (V3.dot r b.tr.y) _ (R3.dot y.tr.y u)
      rw [s (c := r)]; exact dot_In hr o.y hm hk hi t.y hb g.y hB
    · show In (V3.dot r b.tr.z) _ (R3.dot y.tr.z u)
      rw [s (c := r)]; exact dot_In hr o.z hm hk hi t.z hb g.z hB
  exact ⟨row va.x hx.x bx.x hl.x, row va.y hx.y bx.y hl.y, row va.z hx.z bx.z hl.z⟩

/-! ### rotations -/
theorem sinOver_In {a : Iv} {n : Int} (v : Ok a) (hn : a.lo ≤ n ∧ n ≤ a.hi) : In (sinOverI a) (5192296858534827628530496329220096 : Int) (PS n) := by
  have h := ov_has (c := 0) v hn
  rw [Int.add_zero] at h
  rw [sinOver_ov]
  have s := sin_In n
  exact ⟨Int.le_trans (Int.mul_le_mul_of_nonneg_right h.1 (by decide)) s.lo, Int.le_trans s.hi (Int.mul_le_mul_of_nonneg_right h.2 (by decide))⟩
theorem cosOver_In {a : Iv} {n : Int} (v : Ok a) (hn : a.lo ≤ n ∧ n ≤ a.hi) : In (cosOverI a) (5192296858534827628530496329220096 : Int) (PC n) := by
  have h := ov_has (c := 16384) v hn
  rw [cosOver_ov]
  have s := sin_In (n + 16384)
  exact ⟨Int.le_trans (Int.mul_le_mul_of_nonneg_right h.1 (by decide)) s.lo, Int.le_trans s.hi (Int.mul_le_mul_of_nonneg_right h.2 (by decide))⟩
theorem sinOver_b {a : Iv} (v : Ok a) : -65536 ≤ (sinOverI a).lo ∧ (sinOverI a).lo ≤ (sinOverI a).hi ∧ (sinOverI a).hi ≤ 65536 := by rw [sinOver_ov]; exact ov_bnd v
theorem cosOver_b {a : Iv} (v : Ok a) : -65536 ≤ (cosOverI a).lo ∧ (cosOverI a).lo ≤ (cosOverI a).hi ∧ (cosOverI a).hi ≤ 65536 := by rw [cosOver_ov]; exact ov_bnd v
theorem neg_In {a : Iv} {m x : Int} (v : Ok a) (h : In a m x) : In (Iv.neg a) m (-x) := by
  have q1 := h.lo
  have q2 := h.hi
  rw [neg_of v]
  constructor <;> simp only [Int.neg_mul] <;> omega
theorem neg_Ok {a : Iv} (v : Ok a) : Ok (Iv.neg a) := by rw [neg_of v]; unfold Ok at *; simp only; omega
def TR (axis n : Int) : RM := if axis = 0 then ⟨⟨(340282366920938463463374607431768211456 : Int), 0, 0⟩, ⟨0, PC n, -PS n⟩, ⟨0, PS n, PC n⟩⟩ else if axis = 1 then ⟨⟨PC n, 0, PS n⟩, ⟨0, (340282366920938463463374607431768211456 : Int), 0⟩, ⟨-PS n, 0, PC n⟩⟩ else ⟨⟨PC n, -PS n, 0⟩, ⟨PS n, PC n, 0⟩, ⟨0, 0, (340282366920938463463374607431768211456 : Int)⟩⟩
theorem one_In : In iv1 (5192296858534827628530496329220096 : Int) (340282366920938463463374607431768211456 : Int) := ⟨by decide, by decide⟩
theorem zero_In (m : Int) : In iv0 m 0 := ⟨by simp [iv0], by simp [iv0]⟩
theorem one_Ok : Ok iv1 := by unfold Ok; decide
theorem zero_Ok : Ok iv0 := by unfold Ok; decide
theorem turn_at {axis : Int} {a : Iv} (v : Ok a) (h : axis = 0 ∨ axis = 1 ∨ axis = 2) : M3.turn axis a = if axis = 0 then ⟨⟨iv1, iv0, iv0⟩, ⟨iv0, cosOverI a, Iv.neg (sinOverI a)⟩, ⟨iv0, sinOverI a, cosOverI a⟩⟩ else if axis = 1 then ⟨⟨cosOverI a, iv0, sinOverI a⟩, ⟨iv0, iv1, iv0⟩, ⟨Iv.neg (sinOverI a), iv0, cosOverI a⟩⟩ else ⟨⟨cosOverI a, Iv.neg (sinOverI a), iv0⟩, ⟨sinOverI a, cosOverI a, iv0⟩, ⟨iv0, iv0, iv1⟩⟩ := by
  unfold M3.turn
  rw [valid_of v]
  rcases h with h | h | h <;> subst h <;> rfl
theorem turn_In {axis n : Int} {a : Iv} (v : Ok a) (hn : a.lo ≤ n ∧ n ≤ a.hi) (h : axis = 0 ∨ axis = 1 ∨ axis = 2) : MIn (M3.turn axis a) (5192296858534827628530496329220096 : Int) (TR axis n) := by
  have c := cosOver_In v hn
  have s := sinOver_In v hn
  have t := neg_In (by have := sinOver_b v; unfold Ok; omega) s
  have z := zero_In (5192296858534827628530496329220096 : Int)
  rw [turn_at v h]
  unfold TR
  rcases h with h | h | h <;> subst h
  · exact ⟨⟨one_In, z, z⟩, ⟨z, c, t⟩, ⟨z, s, c⟩⟩
  · exact ⟨⟨c, z, s⟩, ⟨z, one_In, z⟩, ⟨t, z, c⟩⟩
  · exact ⟨⟨c, t, z⟩, ⟨s, c, z⟩, ⟨z, z, one_In⟩⟩
theorem turn_Ok {axis : Int} {a : Iv} (v : Ok a) (h : axis = 0 ∨ axis = 1 ∨ axis = 2) : MOk (M3.turn axis a) := by
  have c : Ok (cosOverI a) := by have := cosOver_b v; unfold Ok; omega
  have s : Ok (sinOverI a) := by have := sinOver_b v; unfold Ok; omega
  have t := neg_Ok s
  rw [turn_at v h]
  rcases h with h | h | h <;> subst h
  · exact ⟨⟨one_Ok, zero_Ok, zero_Ok⟩, ⟨zero_Ok, c, t⟩, ⟨zero_Ok, s, c⟩⟩
  · exact ⟨⟨c, zero_Ok, s⟩, ⟨zero_Ok, one_Ok, zero_Ok⟩, ⟨t, zero_Ok, c⟩⟩
  · exact ⟨⟨c, t, zero_Ok⟩, ⟨s, c, zero_Ok⟩, ⟨zero_Ok, zero_Ok, one_Ok⟩⟩
theorem TR_b {axis n : Int} : RMB (65536 * (5192296858534827628530496329220096 : Int)) (TR axis n) := by
  have c := PC_bnd n
  have s := PS_bnd n
  unfold TR
  split
  · exact ⟨⟨by simp only; omega, by simp only; omega, by simp only; omega⟩, ⟨by simp only; omega, by simp only; omega, by simp only; omega⟩, ⟨by simp only; omega, by simp only; omega, by simp only; omega⟩⟩
  · split
    · exact ⟨⟨by simp only; omega, by simp only; omega, by simp only; omega⟩, ⟨by simp only; omega, by simp only; omega, by simp only; omega⟩, ⟨by simp only; omega, by simp only; omega, by simp only; omega⟩⟩
    · exact ⟨⟨by simp only; omega, by simp only; omega, by simp only; omega⟩, ⟨by simp only; omega, by simp only; omega, by simp only; omega⟩, ⟨by simp only; omega, by simp only; omega, by simp only; omega⟩⟩
end Go.Sx

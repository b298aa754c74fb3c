/- Plain laws: quarters of a turn. No condition. -/
import Derived.Test.YtonampcmhhhffaaMatLaw3
namespace Go.Sx
def ivm : Iv := ⟨-65536, -65536⟩
theorem mul_pt {a c : Int} (ha : -65536 ≤ a ∧ a ≤ 65536) (hc : -2147483648 ≤ c ∧ c ≤ 2147483648) : Iv.mul ⟨a, a⟩ ⟨c, c⟩ = ⟨clampI (a * c / 65536), clampI (ceilI (a * c) 65536)⟩ := by
  have v1 : Iv.valid ⟨a, a⟩ = true := valid_of (by simp only; omega)
  have v2 : Iv.valid ⟨c, c⟩ = true := valid_of (by simp only; omega)
  simp only [Iv.mul, v1, v2, Bool.and_self, cond_true, min4, max4, Int.min_self, Int.max_self]
theorem ceil_mul {k b : Int} (hb : 0 < b) : ceilI (b * k) b = k := by
  have h := ceil_of_mul (a := b * k) (b := b) hb (by rw [Int.mul_ediv_cancel_left _ (by omega)]; exact Int.mul_comm _ _)
  rw [← h, Int.mul_ediv_cancel_left _ (by omega)]
theorem mul_1 {c : Int} (hc : -2147483648 ≤ c ∧ c ≤ 2147483648) : Iv.mul iv1 ⟨c, c⟩ = ⟨c, c⟩ := by
  unfold iv1
  rw [mul_pt (by omega) hc, ceil_mul (by decide), Int.mul_ediv_cancel_left _ (by decide), clampI_id (by omega)]
theorem mul_m {c : Int} (hc : -2147483648 ≤ c ∧ c ≤ 2147483648) : Iv.mul ivm ⟨c, c⟩ = ⟨-c, -c⟩ := by
  unfold ivm
  rw [mul_pt (by omega) hc, show (-65536 : Int) * c = 65536 * (-c) by omega, ceil_mul (by decide), Int.mul_ediv_cancel_left _ (by decide), clampI_id (by omega)]
theorem mul_0 {c : Int} (hc : -2147483648 ≤ c ∧ c ≤ 2147483648) : Iv.mul iv0 ⟨c, c⟩ = ⟨0, 0⟩ := by
  unfold iv0
  rw [mul_pt (by omega) hc, Int.zero_mul]; rfl
theorem add_pt {a c : Int} (ha : -2147483648 ≤ a ∧ a ≤ 2147483648) (hc : -2147483648 ≤ c ∧ c ≤ 2147483648) (h : -2147483648 ≤ a + c ∧ a + c ≤ 2147483648) : Iv.add ⟨a, a⟩ ⟨c, c⟩ = ⟨a + c, a + c⟩ := by
  have v1 : Iv.valid ⟨a, a⟩ = true := valid_of (by simp only; omega)
  have v2 : Iv.valid ⟨c, c⟩ = true := valid_of (by simp only; omega)
  simp only [Iv.add, v1, v2, Bool.and_self, cond_true]
  rw [clampI_id (by omega)]
theorem quarter4 {k : Int} (h : k = 0 ∨ k = 1 ∨ k = 2) : M3.mul (M3.mul (M3.turn k (Iv.of 16384)) (M3.turn k (Iv.of 16384))) (M3.mul (M3.turn k (Iv.of 16384)) (M3.turn k (Iv.of 16384))) = M3.unit := by
  rcases h with rfl | rfl | rfl <;> kernel_rfl
theorem quarter2 {k : Int} (h : k = 0 ∨ k = 1 ∨ k = 2) : M3.mul (M3.turn k (Iv.of 16384)) (M3.turn k (Iv.of 16384)) = M3.turn k (Iv.of 32768) := by
  rcases h with rfl | rfl | rfl <;> kernel_rfl
theorem half_at {k : Int} (h : k = 0 ∨ k = 1 ∨ k = 2) : M3.turn k (Iv.of 32768) = if k = 0 then ⟨⟨iv1, iv0, iv0⟩, ⟨iv0, ivm, iv0⟩, ⟨iv0, iv0, ivm⟩⟩ else if k = 1 then ⟨⟨ivm, iv0, iv0⟩, ⟨iv0, iv1, iv0⟩, ⟨iv0, iv0, ivm⟩⟩ else ⟨⟨ivm, iv0, iv0⟩, ⟨iv0, ivm, iv0⟩, ⟨iv0, iv0, iv1⟩⟩ := by
  rcases h with rfl | rfl | rfl <;> kernel_rfl
theorem quart_at {k : Int} (h : k = 0 ∨ k = 1 ∨ k = 2) : M3.turn k (Iv.of 16384) = if k = 0 then ⟨⟨iv1, iv0, iv0⟩, ⟨iv0, iv0, ivm⟩, ⟨iv0, iv1, iv0⟩⟩ else if k = 1 then ⟨⟨iv0, iv0, iv1⟩, ⟨iv0, iv1, iv0⟩, ⟨ivm, iv0, iv0⟩⟩ else ⟨⟨iv0, ivm, iv0⟩, ⟨iv1, iv0, iv0⟩, ⟨iv0, iv0, iv1⟩⟩ := by
  rcases h with rfl | rfl | rfl <;> kernel_rfl
theorem half2 {k : Int} (v : Z3) (h : k = 0 ∨ k = 1 ∨ k = 2) : M3.apply (M3.turn k (Iv.of 32768)) (M3.apply (M3.turn k (Iv.of 32768)) (V3.of v)) = V3.of v := by
  have b1 := clamp_bnd v.x
  have b2 := clamp_bnd v.y
  have b3 := clamp_bnd v.z
  rw [half_at h]
  simp only [V3.of, Iv.of]
  generalize clampI v.x = x at *
  generalize clampI v.y = y at *
  generalize clampI v.z = z at *
  have o : ∀ c : Int, -2147483648 ≤ c ∧ c ≤ 2147483648 → Iv.add ⟨c, c⟩ ⟨0, 0⟩ = ⟨c, c⟩ := fun c hc => by rw [add_pt hc (by omega) (by omega), Int.add_zero]
  have p : ∀ c : Int, -2147483648 ≤ c ∧ c ≤ 2147483648 → Iv.add ⟨0, 0⟩ ⟨c, c⟩ = ⟨c, c⟩ := fun c hc => by rw [add_pt (by omega) hc (by omega), Int.zero_add]
  have z0 : Iv.add ⟨0, 0⟩ ⟨0, 0⟩ = ⟨0, 0⟩ := o 0 (by omega)
  rcases h with rfl | rfl | rfl <;>
    simp only [M3.apply, V3.dot, if_true, if_false, Int.reduceEq, mul_1 b1, mul_1 b2, mul_1 b3, mul_0 b1, mul_0 b2, mul_0 b3, mul_m b1, mul_m b2, mul_m b3, z0, o x b1, o y b2, o z b3, p x b1, p y b2, p z b3,
      o (-x) (by omega), o (-y) (by omega), o (-z) (by omega), p (-x) (by omega), p (-y) (by omega), p (-z) (by omega),
      mul_1 (c := -x) (by omega), mul_1 (c := -y) (by omega), mul_1 (c := -z) (by omega), mul_0 (c := -x) (by omega), mul_0 (c := -y) (by omega), mul_0 (c := -z) (by omega), mul_m (c := -x) (by omega), mul_m (c := -y) (by omega), mul_m (c := -z) (by omega), Int.neg_neg]
theorem axis_x (v : Z3) : (M3.apply (M3.turn 0 (Iv.of 16384)) (V3.of v)).x = (V3.of v).x := by
  have b1 := clamp_bnd v.x
  have b2 := clamp_bnd v.y
  have b3 := clamp_bnd v.z
  rw [quart_at (by decide)]
  simp only [V3.of, Iv.of, M3.apply, V3.dot, if_true, mul_1 b1, mul_0 b2, mul_0 b3]
  rw [add_pt b1 (by omega) (by omega), Int.add_zero, add_pt b1 (by omega) (by omega), Int.add_zero]
theorem axis_y (v : Z3) : (M3.apply (M3.turn 1 (Iv.of 16384)) (V3.of v)).y = (V3.of v).y := by
  have b1 := clamp_bnd v.x
  have b2 := clamp_bnd v.y
  have b3 := clamp_bnd v.z
  rw [quart_at (by decide)]
  simp only [V3.of, Iv.of, M3.apply, V3.dot, if_true, if_false, Int.reduceEq, mul_1 b2, mul_0 b1, mul_0 b3]
  rw [add_pt (by omega) b2 (by omega), Int.zero_add, add_pt b2 (by omega) (by omega), Int.add_zero]
theorem axis_z (v : Z3) : (M3.apply (M3.turn 2 (Iv.of 16384)) (V3.of v)).z = (V3.of v).z := by
  have b1 := clamp_bnd v.x
  have b2 := clamp_bnd v.y
  have b3 := clamp_bnd v.z
  rw [quart_at (by decide)]
  simp only [V3.of, Iv.of, M3.apply, V3.dot, if_false, Int.reduceEq, mul_1 b3, mul_0 b1, mul_0 b2]
  rw [add_pt (by omega) (by omega) (by omega), Int.zero_add, add_pt (by omega) b3 (by omega), Int.zero_add]
end Go.Sx

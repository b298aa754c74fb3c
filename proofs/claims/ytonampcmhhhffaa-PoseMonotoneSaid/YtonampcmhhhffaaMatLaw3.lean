/- Plain laws: two rotations about one axis; quarters of a turn. No condition. -/
import Derived.Test.YtonampcmhhhffaaMatLaw2
namespace Go.Sx
theorem of_id {n : Int} (h : -2147483648 ≤ n ∧ n ≤ 2147483648) : Iv.of n = ⟨n, n⟩ := by
  unfold Iv.of; rw [clampI_id (by omega)]
theorem of_Ok (n : Int) : Ok (Iv.of n) := by
  unfold Iv.of; have := clamp_bnd n; unfold Ok; simp only; omega
theorem amgm {a b c d M : Int} (h1 : a * a + b * b ≤ M) (h2 : c * c + d * d ≤ M) : -M ≤ a * c + b * d ∧ a * c + b * d ≤ M := by
  have s1 := sq_nonneg (a - c)
  have s2 := sq_nonneg (b - d)
  have s3 := sq_nonneg (a + c)
  have s4 := sq_nonneg (b + d)
  have i1 : (a - c) * (a - c) = a * a + c * c - 2 * (a * c) := by grind
  have i2 : (b - d) * (b - d) = b * b + d * d - 2 * (b * d) := by grind
  have i3 : (a + c) * (a + c) = a * a + c * c + 2 * (a * c) := by grind
  have i4 : (b + d) * (b + d) = b * b + d * d + 2 * (b * d) := by grind
  rw [i1] at s1
  rw [i2] at s2
  rw [i3] at s3
  rw [i4] at s4
  omega
structure VNear (a b : R3) : Prop where
  x : -((1099511627776 : Int) * (340282366920938463463374607431768211456 : Int)) ≤ a.x - (340282366920938463463374607431768211456 : Int) * b.x ∧ a.x - (340282366920938463463374607431768211456 : Int) * b.x ≤ (1099511627776 : Int) * (340282366920938463463374607431768211456 : Int)
  y : -((1099511627776 : Int) * (340282366920938463463374607431768211456 : Int)) ≤ a.y - (340282366920938463463374607431768211456 : Int) * b.y ∧ a.y - (340282366920938463463374607431768211456 : Int) * b.y ≤ (1099511627776 : Int) * (340282366920938463463374607431768211456 : Int)
  z : -((1099511627776 : Int) * (340282366920938463463374607431768211456 : Int)) ≤ a.z - (340282366920938463463374607431768211456 : Int) * b.z ∧ a.z - (340282366920938463463374607431768211456 : Int) * b.z ≤ (1099511627776 : Int) * (340282366920938463463374607431768211456 : Int)
structure MNear (a b : RM) : Prop where
  x : VNear a.x b.x
  y : VNear a.y b.y
  z : VNear a.z b.z
theorem TR_adds (k x y : Int) : MNear (RM.mul (TR k x) (TR k y)) (TR k (x + y)) ∧ RMB ((340282366920938463463374607431768211456 : Int) * (340282366920938463463374607431768211456 : Int)) (RM.mul (TR k x) (TR k y)) := by
  have f := (near x y).1
  have g := (near x y).2
  unfold FF at f
  unfold GG at g
  have n1 := P_norm x
  have n2 := P_norm y
  have m1 := amgm (a := PC x) (b := PS x) (c := PS y) (d := PC y) n1 (by omega)
  have m2 := amgm (a := PC x) (b := PS x) (c := PC y) (d := -PS y) n1 (by rw [Int.neg_mul_neg]; omega)
  rw [Int.mul_neg] at m2
  have c1 := Int.mul_comm (PC x) (PC y)
  have c2 := Int.mul_comm (PC x) (PS y)
  have c3 := Int.mul_comm (PS x) (PC y)
  have c4 := Int.mul_comm (PS x) (PS y)
  unfold TR
  split
  · simp only [RM.mul, RM.tr, RM.app, R3.dot]
    refine ⟨⟨⟨?_, ?_, ?_⟩, ⟨?_, ?_, ?_⟩, ⟨?_, ?_, ?_⟩⟩, ⟨⟨?_, ?_, ?_⟩, ⟨?_, ?_, ?_⟩, ⟨?_, ?_, ?_⟩⟩⟩ <;> simp only [Int.neg_mul, Int.mul_neg, Int.neg_neg, Int.mul_zero, Int.zero_mul] <;> omega
  · split
    · simp only [RM.mul, RM.tr, RM.app, R3.dot]
      refine ⟨⟨⟨?_, ?_, ?_⟩, ⟨?_, ?_, ?_⟩, ⟨?_, ?_, ?_⟩⟩, ⟨⟨?_, ?_, ?_⟩, ⟨?_, ?_, ?_⟩, ⟨?_, ?_, ?_⟩⟩⟩ <;> simp only [Int.neg_mul, Int.mul_neg, Int.neg_neg, Int.mul_zero, Int.zero_mul] <;> omega
    · simp only [RM.mul, RM.tr, RM.app, R3.dot]
      refine ⟨⟨⟨?_, ?_, ?_⟩, ⟨?_, ?_, ?_⟩, ⟨?_, ?_, ?_⟩⟩, ⟨⟨?_, ?_, ?_⟩, ⟨?_, ?_, ?_⟩, ⟨?_, ?_, ?_⟩⟩⟩ <;> simp only [Int.neg_mul, Int.mul_neg, Int.neg_neg, Int.mul_zero, Int.zero_mul] <;> omega
theorem meet_near' {S X : Iv} {p v : Int} (hS : Ok S) (hX : Ok X) (h1 : In S (5192296858534827628530496329220096 : Int) p) (h2 : In X (65536 * ((5192296858534827628530496329220096 : Int) * (5192296858534827628530496329220096 : Int))) v) (hn : -((1099511627776 : Int) * (340282366920938463463374607431768211456 : Int)) ≤ v - (340282366920938463463374607431768211456 : Int) * p ∧ v - (340282366920938463463374607431768211456 : Int) * p ≤ (1099511627776 : Int) * (340282366920938463463374607431768211456 : Int)) : Iv.meetB X S = true := by
  obtain ⟨a1, a2⟩ := h1
  obtain ⟨b1, b2⟩ := h2
  unfold Iv.meetB
  rw [valid_of hS, valid_of hX, Bool.true_and, Bool.true_and, decide_eq_true_eq]
  unfold Ok at hS hX
  omega
structure VMeet (a b : V3) : Prop where
  x : Iv.meetB a.x b.x = true
  y : Iv.meetB a.y b.y = true
  z : Iv.meetB a.z b.z = true
structure MMeet (a b : M3) : Prop where
  x : VMeet a.x b.x
  y : VMeet a.y b.y
  z : VMeet a.z b.z
theorem adds_mat {k x y : Int} (hk : 0 ≤ k ∧ k < 3) (hx : -1000000 ≤ x ∧ x ≤ 1000000) (hy : -1000000 ≤ y ∧ y ≤ 1000000) : MMeet (M3.mul (M3.turn k (Iv.of x)) (M3.turn k (Iv.of y))) (M3.turn k (Iv.of (x + y))) := by
  have h : k = 0 ∨ k = 1 ∨ k = 2 := by omega
  have e1 := of_id (n := x) (by omega)
  have e2 := of_id (n := y) (by omega)
  have e3 := of_id (n := x + y) (by omega)
  have i1 := turn_In (of_Ok x) (n := x) (by rw [e1]; simp) h
  have i2 := turn_In (of_Ok y) (n := y) (by rw [e2]; simp) h
  have i3 := turn_In (of_Ok (x + y)) (n := x + y) (by rw [e3]; simp) h
  obtain ⟨nr, bd⟩ := TR_adds k x y
  have i4 := mul_MIn (turn_Ok (of_Ok x) h) (turn_Ok (of_Ok y) h) (by decide) (by decide) i1 i2 TR_b TR_b (by decide) bd
  have o1 := mul_MOk (M3.turn k (Iv.of x)) (M3.turn k (Iv.of y))
  have o2 := turn_Ok (of_Ok (x + y)) h
  exact ⟨⟨meet_near' o2.x.x o1.x.x i3.x.x i4.x.x nr.x.x, meet_near' o2.x.y o1.x.y i3.x.y i4.x.y nr.x.y, meet_near' o2.x.z o1.x.z i3.x.z i4.x.z nr.x.z⟩,
    ⟨meet_near' o2.y.x o1.y.x i3.y.x i4.y.x nr.y.x, meet_near' o2.y.y o1.y.y i3.y.y i4.y.y nr.y.y, meet_near' o2.y.z o1.y.z i3.y.z i4.y.z nr.y.z⟩,
    ⟨meet_near' o2.z.x o1.z.x i3.z.x i4.z.x nr.z.x, meet_near' o2.z.y o1.z.y i3.z.y i4.z.y nr.z.y, meet_near' o2.z.z o1.z.z i3.z.z i4.z.z nr.z.z⟩⟩
end Go.Sx

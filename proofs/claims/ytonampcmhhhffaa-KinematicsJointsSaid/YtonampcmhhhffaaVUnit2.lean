/- The chain of points near the circle: sums of angles are products of points, nearly. No condition. -/
import Derived.Test.YtonampcmhhhffaaVUnit
namespace Go.Sx
def WC (r : Nat) : Int := ((w r).1 : Int)
def WT (r : Nat) : Int := ((w r).2 : Int)
theorem w0 : WC 0 = (340282366920938463463374607431768211456 : Int) ∧ WT 0 = 0 := ⟨rfl, rfl⟩
theorem wq : WC 16384 = 17179870747 ∧ WT 16384 = 340282366920938463463374607431766555032 := by unfold WC WT; rw [ws16]; exact ⟨rfl, rfl⟩
theorem wbox {r : Nat} (h : r < 16384) : (fLo r : Int) * (5192296858534827628530496329220096 : Int) ≤ WT r ∧ WT r ≤ (fHi r : Int) * (5192296858534827628530496329220096 : Int) ∧ (fLo (16384 - r) : Int) * (5192296858534827628530496329220096 : Int) ≤ WC r ∧ WC r ≤ (fHi (16384 - r) : Int) * (5192296858534827628530496329220096 : Int) := by
  have b := box h
  simp only [uu] at b
  unfold WC WT
  omega
theorem wbnd {r : Nat} (h : r ≤ 16384) : 0 ≤ WC r ∧ WC r ≤ (340282366920938463463374607431768211456 : Int) ∧ 0 ≤ WT r ∧ WT r ≤ (340282366920938463463374607431768211456 : Int) := by
  rcases Nat.lt_or_ge r 16384 with h1 | h1
  · have b := wbox h1
    have t1 := (fst_all (r := r) h).top
    have t2 := (fst_all (r := 16384 - r) (by omega)).top
    have p1 : 0 ≤ WC r := by unfold WC; omega
    have p2 : 0 ≤ WT r := by unfold WT; omega
    omega
  · have e : r = 16384 := by omega
    subst e
    rw [wq.1, wq.2]; decide
theorem wstep {r : Nat} (h : r < 16384) : ∃ p q : Int, (0 ≤ p ∧ p < (340282366920938463463374607431768211456 : Int)) ∧ (0 ≤ q ∧ q < (340282366920938463463374607431768211456 : Int)) ∧ (340282366920938463463374607431768211456 : Int) * WC (r + 1) = WC r * (340282365357037221779282487371359009126 : Int) - WT r * (32624163282081701561065576601652201 : Int) - p ∧ (340282366920938463463374607431768211456 : Int) * WT (r + 1) = WC r * (32624163282081701561065576601652201 : Int) + WT r * (340282365357037221779282487371359009126 : Int) - q := by
  have st := step_le h
  have e1 : (w (r + 1)).1 = ((w r).1 * uc - (w r).2 * us) / nn := by rw [w]
  have e2 : (w (r + 1)).2 = ((w r).1 * us + (w r).2 * uc) / nn := by rw [w]
  unfold WC WT
  rw [e1, e2]
  simp only [uc, us, nn] at st ⊢
  refine ⟨(((w r).1 * 340282365357037221779282487371359009126 - (w r).2 * 32624163282081701561065576601652201) % 340282366920938463463374607431768211456 : Nat), (((w r).1 * 32624163282081701561065576601652201 + (w r).2 * 340282365357037221779282487371359009126) % 340282366920938463463374607431768211456 : Nat), ?_, ?_, ?_, ?_⟩ <;> omega
theorem abs_mul {x y A B : Int} (hx : -A ≤ x ∧ x ≤ A) (hy : -B ≤ y ∧ y ≤ B) : -(A * B) ≤ x * y ∧ x * y ≤ A * B := by
  have h1 : x.natAbs * y.natAbs ≤ A.toNat * B.toNat := Nat.mul_le_mul (by omega) (by omega)
  have h2 : (x * y).natAbs = x.natAbs * y.natAbs := Int.natAbs_mul x y
  rw [← h2] at h1
  have h3 : ((A.toNat * B.toNat : Nat) : Int) = A * B := by rw [Int.natCast_mul, Int.toNat_of_nonneg (by omega), Int.toNat_of_nonneg (by omega)]
  omega
theorem add_law : ∀ b a : Nat, a + b ≤ 16384 → b ≤ 8192 →
    (-(24 * (340282366920938463463374607431768211456 : Int) * b) ≤ WC a * WC b - WT a * WT b - (340282366920938463463374607431768211456 : Int) * WC (a + b) ∧ WC a * WC b - WT a * WT b - (340282366920938463463374607431768211456 : Int) * WC (a + b) ≤ 24 * (340282366920938463463374607431768211456 : Int) * b) ∧
    (-(24 * (340282366920938463463374607431768211456 : Int) * b) ≤ WC a * WT b + WT a * WC b - (340282366920938463463374607431768211456 : Int) * WT (a + b) ∧ WC a * WT b + WT a * WC b - (340282366920938463463374607431768211456 : Int) * WT (a + b) ≤ 24 * (340282366920938463463374607431768211456 : Int) * b)
  | 0, a, _, _ => by
    rw [w0.1, w0.2, Nat.add_zero]; omega
  | b + 1, a, h, hb => by
    obtain ⟨ih1, ih2⟩ := add_law b a (by omega) (by omega)
    obtain ⟨p, q, hp, hq, s1, s2⟩ := wstep (r := b) (by omega)
    obtain ⟨p', q', hp', hq', s1', s2'⟩ := wstep (r := a + b) (by omega)
    have ba := wbnd (r := a) (by omega)
    have m1 := abs_mul (x := WC a) (y := p) (A := (340282366920938463463374607431768211456 : Int)) (B := (340282366920938463463374607431768211456 : Int)) (by omega) (by omega)
    have m2 := abs_mul (x := WT a) (y := q) (A := (340282366920938463463374607431768211456 : Int)) (B := (340282366920938463463374607431768211456 : Int)) (by omega) (by omega)
    have m3 := abs_mul (x := WC a) (y := q) (A := (340282366920938463463374607431768211456 : Int)) (B := (340282366920938463463374607431768211456 : Int)) (by omega) (by omega)
    have m4 := abs_mul (x := WT a) (y := p) (A := (340282366920938463463374607431768211456 : Int)) (B := (340282366920938463463374607431768211456 : Int)) (by omega) (by omega)
    have x1 : (340282366920938463463374607431768211456 : Int) * (WC a * WC (b + 1)) = WC a * WC b * (340282365357037221779282487371359009126 : Int) - WC a * WT b * (32624163282081701561065576601652201 : Int) - WC a * p := by
      rw [Int.mul_left_comm, s1, Int.mul_sub, Int.mul_sub, ← Int.mul_assoc, ← Int.mul_assoc]
    have x2 : (340282366920938463463374607431768211456 : Int) * (WT a * WT (b + 1)) = WT a * WC b * (32624163282081701561065576601652201 : Int) + WT a * WT b * (340282365357037221779282487371359009126 : Int) - WT a * q := by
      rw [Int.mul_left_comm, s2, Int.mul_sub, Int.mul_add, ← Int.mul_assoc, ← Int.mul_assoc]
    have x3 : (340282366920938463463374607431768211456 : Int) * (WC a * WT (b + 1)) = WC a * WC b * (32624163282081701561065576601652201 : Int) + WC a * WT b * (340282365357037221779282487371359009126 : Int) - WC a * q := by
      rw [Int.mul_left_comm, s2, Int.mul_sub, Int.mul_add, ← Int.mul_assoc, ← Int.mul_assoc]
    have x4 : (340282366920938463463374607431768211456 : Int) * (WT a * WC (b + 1)) = WT a * WC b * (340282365357037221779282487371359009126 : Int) - WT a * WT b * (32624163282081701561065576601652201 : Int) - WT a * p := by
      rw [Int.mul_left_comm, s1, Int.mul_sub, Int.mul_sub, ← Int.mul_assoc, ← Int.mul_assoc]
    rw [show a + (b + 1) = a + b + 1 by omega]
    generalize WC a * WC (b + 1) = y1 at *
    generalize WT a * WT (b + 1) = y2 at *
    generalize WC a * WT (b + 1) = y3 at *
    generalize WT a * WC (b + 1) = y4 at *
    generalize WC a * WC b = z1 at *
    generalize WT a * WT b = z2 at *
    generalize WC a * WT b = z3 at *
    generalize WT a * WC b = z4 at *
    generalize WC a * p = t1 at *
    generalize WT a * q = t2 at *
    generalize WC a * q = t3 at *
    generalize WT a * p = t4 at *
    generalize WC (a + b) = v1 at *
    generalize WT (a + b) = v2 at *
    generalize WC (a + b + 1) = v3 at *
    generalize WT (a + b + 1) = v4 at *
    refine ⟨⟨?_, ?_⟩, ⟨?_, ?_⟩⟩ <;> omega
theorem add_sym {a b : Nat} (h : a + b ≤ 16384) :
    (-(196608 * (340282366920938463463374607431768211456 : Int)) ≤ WC a * WC b - WT a * WT b - (340282366920938463463374607431768211456 : Int) * WC (a + b) ∧ WC a * WC b - WT a * WT b - (340282366920938463463374607431768211456 : Int) * WC (a + b) ≤ 196608 * (340282366920938463463374607431768211456 : Int)) ∧
    (-(196608 * (340282366920938463463374607431768211456 : Int)) ≤ WC a * WT b + WT a * WC b - (340282366920938463463374607431768211456 : Int) * WT (a + b) ∧ WC a * WT b + WT a * WC b - (340282366920938463463374607431768211456 : Int) * WT (a + b) ≤ 196608 * (340282366920938463463374607431768211456 : Int)) := by
  rcases Nat.lt_or_ge b 8193 with h1 | h1
  · have := add_law b a h (by omega)
    omega
  · have := add_law a b (by omega) (by omega)
    rw [Int.mul_comm (WC a), Int.mul_comm (WT a), Int.mul_comm (WC a), Int.mul_comm (WT a), show a + b = b + a by omega]
    omega
theorem add_over {a b : Nat} (ha : a ≤ 16384) (hb : b ≤ 16384) (h : 16384 ≤ a + b) :
    (-(1099511627776 * (340282366920938463463374607431768211456 : Int)) ≤ WC a * WC b - WT a * WT b + (340282366920938463463374607431768211456 : Int) * WT (a + b - 16384) ∧ WC a * WC b - WT a * WT b + (340282366920938463463374607431768211456 : Int) * WT (a + b - 16384) ≤ 1099511627776 * (340282366920938463463374607431768211456 : Int)) ∧
    (-(1099511627776 * (340282366920938463463374607431768211456 : Int)) ≤ WC a * WT b + WT a * WC b - (340282366920938463463374607431768211456 : Int) * WC (a + b - 16384) ∧ WC a * WT b + WT a * WC b - (340282366920938463463374607431768211456 : Int) * WC (a + b - 16384) ≤ 1099511627776 * (340282366920938463463374607431768211456 : Int)) := by
  generalize hk : a + b - 16384 = k
  generalize hj : 16384 - a = j
  obtain ⟨e1, f1⟩ := add_sym (a := k) (b := j) (by omega)
  obtain ⟨e2, f2⟩ := add_sym (a := a) (b := j) (by omega)
  rw [show k + j = b by omega] at e1 f1
  rw [show a + j = 16384 by omega, wq.1] at e2
  rw [show a + j = 16384 by omega, wq.2] at f2
  have ba := wbnd (r := a) ha
  have bk := wbnd (r := k) (by omega)
  generalize he1 : WC k * WC j - WT k * WT j - (340282366920938463463374607431768211456 : Int) * WC b = E1 at e1
  generalize hf1 : WC k * WT j + WT k * WC j - (340282366920938463463374607431768211456 : Int) * WT b = F1 at f1
  generalize he2 : WC a * WC j - WT a * WT j - (340282366920938463463374607431768211456 : Int) * 17179870747 = E2 at e2
  generalize hf2 : WC a * WT j + WT a * WC j - (340282366920938463463374607431768211456 : Int) * 340282366920938463463374607431766555032 = F2 at f2
  have g1 : (340282366920938463463374607431768211456 : Int) * WC b = WC k * WC j - WT k * WT j - E1 := by omega
  have g2 : (340282366920938463463374607431768211456 : Int) * WT b = WC k * WT j + WT k * WC j - F1 := by omega
  have g3 : WC a * WC j - WT a * WT j = (340282366920938463463374607431768211456 : Int) * 17179870747 + E2 := by omega
  have g4 : WC a * WT j + WT a * WC j = (340282366920938463463374607431768211456 : Int) * 340282366920938463463374607431766555032 + F2 := by omega
  have m1 := abs_mul (x := WC k) (y := E2) (A := (340282366920938463463374607431768211456 : Int)) (B := 196608 * (340282366920938463463374607431768211456 : Int)) (by omega) e2
  have m2 := abs_mul (x := WT k) (y := F2) (A := (340282366920938463463374607431768211456 : Int)) (B := 196608 * (340282366920938463463374607431768211456 : Int)) (by omega) f2
  have m3 := abs_mul (x := WC a) (y := E1) (A := (340282366920938463463374607431768211456 : Int)) (B := 196608 * (340282366920938463463374607431768211456 : Int)) (by omega) e1
  have m4 := abs_mul (x := WT a) (y := F1) (A := (340282366920938463463374607431768211456 : Int)) (B := 196608 * (340282366920938463463374607431768211456 : Int)) (by omega) f1
  have m5 := abs_mul (x := WC k) (y := F2) (A := (340282366920938463463374607431768211456 : Int)) (B := 196608 * (340282366920938463463374607431768211456 : Int)) (by omega) f2
  have m6 := abs_mul (x := WT k) (y := E2) (A := (340282366920938463463374607431768211456 : Int)) (B := 196608 * (340282366920938463463374607431768211456 : Int)) (by omega) e2
  have m7 := abs_mul (x := WC a) (y := F1) (A := (340282366920938463463374607431768211456 : Int)) (B := 196608 * (340282366920938463463374607431768211456 : Int)) (by omega) f1
  have m8 := abs_mul (x := WT a) (y := E1) (A := (340282366920938463463374607431768211456 : Int)) (B := 196608 * (340282366920938463463374607431768211456 : Int)) (by omega) e1
  have id1 : (340282366920938463463374607431768211456 : Int) * (WC a * WC b - WT a * WT b) = WC k * ((340282366920938463463374607431768211456 : Int) * 17179870747 + E2) - WT k * ((340282366920938463463374607431768211456 : Int) * 340282366920938463463374607431766555032 + F2) - WC a * E1 + WT a * F1 := by
    rw [← g3, ← g4, Int.mul_sub, Int.mul_left_comm, g1, Int.mul_left_comm (340282366920938463463374607431768211456 : Int) (WT a), g2]
    grind
  have id2 : (340282366920938463463374607431768211456 : Int) * (WC a * WT b + WT a * WC b) = WC k * ((340282366920938463463374607431768211456 : Int) * 340282366920938463463374607431766555032 + F2) + WT k * ((340282366920938463463374607431768211456 : Int) * 17179870747 + E2) - WC a * F1 - WT a * E1 := by
    rw [← g3, ← g4, Int.mul_add, Int.mul_left_comm, g2, Int.mul_left_comm (340282366920938463463374607431768211456 : Int) (WT a), g1]
    grind
  rw [Int.mul_add (WC k), Int.mul_add (WT k)] at id1 id2
  generalize WC a * WC b - WT a * WT b = y1 at *
  generalize WC a * WT b + WT a * WC b = y2 at *
  generalize WC k * E2 = t1 at *
  generalize WT k * F2 = t2 at *
  generalize WC a * E1 = t3 at *
  generalize WT a * F1 = t4 at *
  generalize WC k * F2 = t5 at *
  generalize WT k * E2 = t6 at *
  generalize WC a * F1 = t7 at *
  generalize WT a * E1 = t8 at *
  clear g1 g2 g3 g4 he1 hf1 he2 hf2
  generalize WC k = v1 at *
  generalize WT k = v2 at *
  refine ⟨⟨?_, ?_⟩, ⟨?_, ?_⟩⟩ <;> omega
end Go.Sx

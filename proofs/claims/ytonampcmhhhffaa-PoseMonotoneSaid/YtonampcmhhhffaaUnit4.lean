/- The points near the circle lie within it, and near to it. No condition. -/
import Derived.Test.YtonampcmhhhffaaUnit3
namespace Go.Sx
theorem sq_le {x y : Int} (h0 : 0 ≤ x) (h : x ≤ y) : x * x ≤ y * y := Int.mul_le_mul h h h0 (by omega)
theorem sq_nonneg (x : Int) : 0 ≤ x * x := by
  rcases Int.le_total 0 x with h | h
  · exact Int.mul_nonneg h h
  · have := Int.mul_nonneg (a := -x) (b := -x) (by omega) (by omega)
    rwa [Int.neg_mul_neg] at this
theorem w_norm : ∀ r : Nat, r ≤ 16384 → WC r * WC r + WT r * WT r ≤ (340282366920938463463374607431768211456 : Int) * (340282366920938463463374607431768211456 : Int)
  | 0, _ => by rw [w0.1, w0.2]; decide
  | r + 1, h => by
    have ih := w_norm r (by omega)
    obtain ⟨p, q, hp, hq, s1, s2⟩ := wstep (r := r) (by omega)
    have b := wbnd (r := r + 1) h
    have q1 := sq_le (x := (340282366920938463463374607431768211456 : Int) * WC (r + 1)) (y := WC r * (340282365357037221779282487371359009126 : Int) - WT r * (32624163282081701561065576601652201 : Int)) (by omega) (by omega)
    have q2 := sq_le (x := (340282366920938463463374607431768211456 : Int) * WT (r + 1)) (y := WC r * (32624163282081701561065576601652201 : Int) + WT r * (340282365357037221779282487371359009126 : Int)) (by omega) (by omega)
    have e1 : (340282366920938463463374607431768211456 : Int) * WC (r + 1) * ((340282366920938463463374607431768211456 : Int) * WC (r + 1)) = (340282366920938463463374607431768211456 : Int) * (340282366920938463463374607431768211456 : Int) * (WC (r + 1) * WC (r + 1)) := by grind
    have e2 : (340282366920938463463374607431768211456 : Int) * WT (r + 1) * ((340282366920938463463374607431768211456 : Int) * WT (r + 1)) = (340282366920938463463374607431768211456 : Int) * (340282366920938463463374607431768211456 : Int) * (WT (r + 1) * WT (r + 1)) := by grind
    have e3 : (WC r * (340282365357037221779282487371359009126 : Int) - WT r * (32624163282081701561065576601652201 : Int)) * (WC r * (340282365357037221779282487371359009126 : Int) - WT r * (32624163282081701561065576601652201 : Int)) + (WC r * (32624163282081701561065576601652201 : Int) + WT r * (340282365357037221779282487371359009126 : Int)) * (WC r * (32624163282081701561065576601652201 : Int) + WT r * (340282365357037221779282487371359009126 : Int)) = ((340282365357037221779282487371359009126 : Int) * (340282365357037221779282487371359009126 : Int) + (32624163282081701561065576601652201 : Int) * (32624163282081701561065576601652201 : Int)) * (WC r * WC r + WT r * WT r) := by grind
    rw [e1] at q1
    rw [e2] at q2
    generalize (WC r * (340282365357037221779282487371359009126 : Int) - WT r * (32624163282081701561065576601652201 : Int)) * (WC r * (340282365357037221779282487371359009126 : Int) - WT r * (32624163282081701561065576601652201 : Int)) = a1 at *
    generalize (WC r * (32624163282081701561065576601652201 : Int) + WT r * (340282365357037221779282487371359009126 : Int)) * (WC r * (32624163282081701561065576601652201 : Int) + WT r * (340282365357037221779282487371359009126 : Int)) = a2 at *
    generalize WC (r + 1) * WC (r + 1) = c1 at *
    generalize WT (r + 1) * WT (r + 1) = c2 at *
    generalize WC r * WC r + WT r * WT r = d at *
    clear s1 s2 e1 e2
    omega
theorem P_norm (n : Int) : PC n * PC n + PS n * PS n ≤ (340282366920938463463374607431768211456 : Int) * (340282366920938463463374607431768211456 : Int) := by
  refine near_q (fun n => PC n * PC n + PS n * PS n ≤ (340282366920938463463374607431768211456 : Int) * (340282366920938463463374607431768211456 : Int)) (fun n h => ?_) (fun a b e h => ?_) ?_
  · rw [PC_next, PS_next, Int.neg_mul_neg]; omega
  · rw [← PS_per e, ← PC_per e]; exact h
  · have h := w_norm (n % 16384).toNat (by omega)
    have e := PS_base (r := (n % 16384).toNat) (by omega)
    rw [show ((n % 16384).toNat : Int) = n % 16384 by omega] at e
    rw [e.1, e.2]; exact h
theorem P_norm_lo (n : Int) : (340282366920938463463374607431768211456 : Int) * (340282366920938463463374607431768211456 : Int) - 2 * (1099511627776 : Int) * (340282366920938463463374607431768211456 : Int) ≤ PC n * PC n + PS n * PS n := by
  have h := (near n (-n)).2
  unfold GG at h
  have e : PC (n + -n) = (340282366920938463463374607431768211456 : Int) := by rw [show n + -n = ((0 : Nat) : Int) by omega, (PS_base (r := 0) (by omega)).2, w0.1]
  rw [e] at h
  have u := P_norm (-n)
  have s1 := sq_nonneg (PC n - PC (-n))
  have s2 := sq_nonneg (PS n + PS (-n))
  have i1 : (PC n - PC (-n)) * (PC n - PC (-n)) = PC n * PC n + PC (-n) * PC (-n) - 2 * (PC n * PC (-n)) := by grind
  have i2 : (PS n + PS (-n)) * (PS n + PS (-n)) = PS n * PS n + PS (-n) * PS (-n) + 2 * (PS n * PS (-n)) := by grind
  rw [i1] at s1
  rw [i2] at s2
  omega
end Go.Sx

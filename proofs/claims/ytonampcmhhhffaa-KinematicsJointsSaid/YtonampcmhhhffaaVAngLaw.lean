/- Plain laws of sine and cosine, off the table. No condition. -/
import Derived.Test.YtonampcmhhhffaaVTab
namespace Go.Sx

theorem eq_iv {r : Iv} {a b : Int} (h : r = ⟨a, b⟩) : eqCells [.int .i64 r.lo, .int .i64 r.hi] [.int .i64 a, .int .i64 b] = true := by
  subst h; simp [eqCells, eqCell]
theorem eq_iv' {r s : Iv} (h : r = s) : eqCells [.int .i64 r.lo, .int .i64 r.hi] [.int .i64 s.lo, .int .i64 s.hi] = true := by
  subst h; simp [eqCells, eqCell]
theorem sin_0 : sinI 0 = ⟨0, 0⟩ := by kernel_rfl
theorem sin_q : sinI 16384 = ⟨65536, 65536⟩ := by kernel_rfl
theorem sin_1 : sinI 1 = ⟨6, 7⟩ := by kernel_rfl

theorem sin_first {r : Int} (h : 0 ≤ r ∧ r ≤ 16384) : sinI r = firstI r := by
  unfold sinI sinM
  rw [show r % 65536 = r by omega]
  by_cases h1 : r = 16384
  · subst h1
    rfl
  · rw [decide_eq_true (show r / 16384 = 0 by omega), show r % 16384 = r by omega]
    rfl
theorem first_at {r : Int} (h : 0 ≤ r ∧ r ≤ 16384) : firstI r = ⟨fLo r.toNat, fHi r.toNat⟩ := by
  have := first_nat (r := r.toNat) (by omega)
  rwa [show ((r.toNat : Nat) : Int) = r by omega] at this
theorem first_facts {r : Int} (h : 0 ≤ r ∧ r ≤ 16384) : 0 ≤ (firstI r).lo ∧ (firstI r).lo ≤ (firstI r).hi ∧ (firstI r).hi ≤ 65536 ∧ (firstI r).hi ≤ (firstI r).lo + 2 ∧ 4 * r ≤ (firstI r).hi ∧ (4 * r - 2 ≤ (firstI r).lo ∧ (firstI r).lo ≤ r * 411775 / 65536 + 1) := by
  have := fst_all (r := r.toNat) (by omega)
  rw [first_at h]
  obtain ⟨h1, h2, h3, h4, h5, h6⟩ := this
  simp only
  omega
theorem sin_facts {r : Int} (h : 0 ≤ r ∧ r ≤ 16384) : 0 ≤ (sinI r).lo ∧ (sinI r).lo ≤ (sinI r).hi ∧ (sinI r).hi ≤ 65536 ∧ (sinI r).hi ≤ (sinI r).lo + 2 ∧ 4 * r ≤ (sinI r).hi ∧ (4 * r - 2 ≤ (sinI r).lo ∧ (sinI r).lo ≤ r * 411775 / 65536 + 1) := by
  rw [sin_first h]; exact first_facts h
theorem first_mono1 {r : Int} (h : 0 ≤ r ∧ r < 16384) : (firstI r).lo ≤ (firstI (r + 1)).lo ∧ (firstI r).hi ≤ (firstI (r + 1)).hi := by
  rw [first_at (by omega), first_at (by omega)]
  have := fst_mono (r := r.toNat) (by omega)
  rw [show (r + 1).toNat = r.toNat + 1 by omega]
  simp only
  omega
theorem sin_mono {r : Int} (h : 0 ≤ r ∧ r < 16384) : (sinI r).lo ≤ (sinI (r + 1)).lo ∧ (sinI r).hi ≤ (sinI (r + 1)).hi := by
  rw [sin_first (by omega), sin_first (by omega)]; exact first_mono1 h
theorem cos_first {r : Int} (h : 0 ≤ r ∧ r ≤ 16384) : cosI r = firstI (16384 - r) := by
  unfold cosI
  rw [show r % 65536 = r by omega]
  unfold sinI sinM
  rw [show (r + 16384) % 65536 = r + 16384 by omega]
  by_cases h1 : r = 16384
  · subst h1
    kernel_rfl
  · rw [decide_eq_false (show ¬ (r + 16384) / 16384 = 0 by omega), decide_eq_true (show (r + 16384) / 16384 = 1 by omega), show (r + 16384) % 16384 = r by omega]
    rfl
theorem cos_mono {r : Int} (h : 0 ≤ r ∧ r < 16384) : (cosI (r + 1)).lo ≤ (cosI r).lo ∧ (cosI (r + 1)).hi ≤ (cosI r).hi := by
  rw [cos_first (by omega), cos_first (by omega)]
  have := first_mono1 (r := 16384 - (r + 1)) (by omega)
  rwa [show 16384 - (r + 1) + 1 = 16384 - r by omega] at this
end Go.Sx

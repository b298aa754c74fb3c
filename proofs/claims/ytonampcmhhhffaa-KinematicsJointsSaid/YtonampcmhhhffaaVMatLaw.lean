/- Plain laws of vectors and matrices of intervals. No condition. -/
import Derived.Test.YtonampcmhhhffaaVMat
namespace Go.Sx
theorem eq_v3 {a b : V3} (h : a = b) : eqCells [.int .i64 a.x.lo, .int .i64 a.x.hi, .int .i64 a.y.lo, .int .i64 a.y.hi, .int .i64 a.z.lo, .int .i64 a.z.hi] [.int .i64 b.x.lo, .int .i64 b.x.hi, .int .i64 b.y.lo, .int .i64 b.y.hi, .int .i64 b.z.lo, .int .i64 b.z.hi] = true := by
  subst h; simp [eqCells, eqCell]
theorem eq_m3 {v u : M3} (h : v = u) : eqCells [.int .i64 v.x.x.lo, .int .i64 v.x.x.hi, .int .i64 v.x.y.lo, .int .i64 v.x.y.hi, .int .i64 v.x.z.lo, .int .i64 v.x.z.hi,
  .int .i64 v.y.x.lo, .int .i64 v.y.x.hi, .int .i64 v.y.y.lo, .int .i64 v.y.y.hi, .int .i64 v.y.z.lo, .int .i64 v.y.z.hi,
  .int .i64 v.z.x.lo, .int .i64 v.z.x.hi, .int .i64 v.z.y.lo, .int .i64 v.z.y.hi, .int .i64 v.z.z.lo, .int .i64 v.z.z.hi]
  [.int .i64 u.x.x.lo, .int .i64 u.x.x.hi, .int .i64 u.x.y.lo, .int .i64 u.x.y.hi, .int .i64 u.x.z.lo, .int .i64 u.x.z.hi,
  .int .i64 u.y.x.lo, .int .i64 u.y.x.hi, .int .i64 u.y.y.lo, .int .i64 u.y.y.hi, .int .i64 u.y.z.lo, .int .i64 u.y.z.hi,
  .int .i64 u.z.x.lo, .int .i64 u.z.x.hi, .int .i64 u.z.y.lo, .int .i64 u.z.y.hi, .int .i64 u.z.z.lo, .int .i64 u.z.z.hi] = true := by
  subst h; simp [eqCells, eqCell]
theorem awake4_val : M3.apply (M3.turn 2 (Iv.of 16384)) (V3.of ⟨3, 5, 7⟩) = V3.of ⟨-5, 3, 7⟩ := by kernel_rfl
theorem awake4_in : V3.within (M3.apply (M3.turn 2 (Iv.of 16384)) (V3.of ⟨3, 5, 7⟩)) (M3.apply (M3.turn 2 (Iv.of 16384)) (V3.of ⟨3, 5, 7⟩)) = true := by rw [awake4_val]; kernel_rfl
end Go.Sx

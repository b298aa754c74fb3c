/- Vectors, matrices and poses of intervals: what the functions of the chapters 4 and 5 compute, as plain functions. No condition. -/
import Derived.Test.YtonampcmhhhffaaVUnit3
import Derived.Test.YtonampcmhhhffaaVSxLate
import Derived.Test.YtonampcmhhhffaaVSxIdx
namespace Go.Sx
structure V3 where
  x : Iv
  y : Iv
  z : Iv
structure M3 where
  x : V3
  y : V3
  z : V3
structure Po where
  r : M3
  t : V3
structure Z3 where
  x : Int
  y : Int
  z : Int
def z3 (v : Z3) : Value := .agg #[.int .i64 v.x, .int .i64 v.y, .int .i64 v.z]
def v3 (v : V3) : Value := .agg #[.int .i64 v.x.lo, .int .i64 v.x.hi, .int .i64 v.y.lo, .int .i64 v.y.hi, .int .i64 v.z.lo, .int .i64 v.z.hi]
def m3 (v : M3) : Value := .agg #[.int .i64 v.x.x.lo, .int .i64 v.x.x.hi, .int .i64 v.x.y.lo, .int .i64 v.x.y.hi, .int .i64 v.x.z.lo, .int .i64 v.x.z.hi,
  .int .i64 v.y.x.lo, .int .i64 v.y.x.hi, .int .i64 v.y.y.lo, .int .i64 v.y.y.hi, .int .i64 v.y.z.lo, .int .i64 v.y.z.hi,
  .int .i64 v.z.x.lo, .int .i64 v.z.x.hi, .int .i64 v.z.y.lo, .int .i64 v.z.y.hi, .int .i64 v.z.z.lo, .int .i64 v.z.z.hi]
def po (p : Po) : Value := .agg #[.int .i64 p.r.x.x.lo, .int .i64 p.r.x.x.hi, .int .i64 p.r.x.y.lo, .int .i64 p.r.x.y.hi, .int .i64 p.r.x.z.lo, .int .i64 p.r.x.z.hi,
  .int .i64 p.r.y.x.lo, .int .i64 p.r.y.x.hi, .int .i64 p.r.y.y.lo, .int .i64 p.r.y.y.hi, .int .i64 p.r.y.z.lo, .int .i64 p.r.y.z.hi,
  .int .i64 p.r.z.x.lo, .int .i64 p.r.z.x.hi, .int .i64 p.r.z.y.lo, .int .i64 p.r.z.y.hi, .int .i64 p.r.z.z.lo, .int .i64 p.r.z.z.hi,
  .int .i64 p.t.x.lo, .int .i64 p.t.x.hi, .int .i64 p.t.y.lo, .int .i64 p.t.y.hi, .int .i64 p.t.z.lo, .int .i64 p.t.z.hi]
def V3.of (p : Z3) : V3 := ⟨Iv.of p.x, Iv.of p.y, Iv.of p.z⟩
def V3.add (a b : V3) : V3 := ⟨Iv.add a.x b.x, Iv.add a.y b.y, Iv.add a.z b.z⟩
def V3.sub (a b : V3) : V3 := ⟨Iv.sub a.x b.x, Iv.sub a.y b.y, Iv.sub a.z b.z⟩
def V3.neg (a : V3) : V3 := ⟨Iv.neg a.x, Iv.neg a.y, Iv.neg a.z⟩
def V3.within (a b : V3) : Bool := Iv.within a.x b.x && Iv.within a.y b.y && Iv.within a.z b.z
def V3.dot (a b : V3) : Iv := Iv.add (Iv.add (Iv.mul a.x b.x) (Iv.mul a.y b.y)) (Iv.mul a.z b.z)
def M3.apply (m : M3) (v : V3) : V3 := ⟨V3.dot m.x v, V3.dot m.y v, V3.dot m.z v⟩
def limI (x : Int) : Int := min (max x (-65536)) 65536
def limV (a : Iv) : Iv := ⟨limI a.lo, limI a.hi⟩
def M3.tr (m : M3) : M3 := ⟨⟨m.x.x, m.y.x, m.z.x⟩, ⟨m.x.y, m.y.y, m.z.y⟩, ⟨m.x.z, m.y.z, m.z.z⟩⟩
def M3.row (a : V3) (b : M3) : V3 := ⟨limV (V3.dot a b.tr.x), limV (V3.dot a b.tr.y), limV (V3.dot a b.tr.z)⟩
def M3.mul (a b : M3) : M3 := ⟨M3.row a.x b, M3.row a.y b, M3.row a.z b⟩
def M3.within (a b : M3) : Bool := V3.within a.x b.x && V3.within a.y b.y && V3.within a.z b.z
def iv0 : Iv := ⟨0, 0⟩
def iv1 : Iv := ⟨65536, 65536⟩
def M3.unit : M3 := ⟨⟨iv1, iv0, iv0⟩, ⟨iv0, iv1, iv0⟩, ⟨iv0, iv0, iv1⟩⟩
def M3.zero : M3 := ⟨⟨iv0, iv0, iv0⟩, ⟨iv0, iv0, iv0⟩, ⟨iv0, iv0, iv0⟩⟩
def M3.turn (axis : Int) (a : Iv) : M3 := bif !a.valid then M3.zero else
  bif decide (axis = 0) then ⟨⟨iv1, iv0, iv0⟩, ⟨iv0, cosOverI a, Iv.neg (sinOverI a)⟩, ⟨iv0, sinOverI a, cosOverI a⟩⟩ else
  bif decide (axis = 1) then ⟨⟨cosOverI a, iv0, sinOverI a⟩, ⟨iv0, iv1, iv0⟩, ⟨Iv.neg (sinOverI a), iv0, cosOverI a⟩⟩ else
  bif decide (axis = 2) then ⟨⟨cosOverI a, Iv.neg (sinOverI a), iv0⟩, ⟨sinOverI a, cosOverI a, iv0⟩, ⟨iv0, iv0, iv1⟩⟩ else M3.zero
theorem of_one : Iv.of 65536 = iv1 := by kernel_rfl
theorem of_zero : Iv.of 0 = iv0 := by kernel_rfl
theorem add_zero_mul (a b : Iv) : Iv.add ⟨0, 0⟩ (Iv.mul a b) = Iv.mul a b := by
  have h := mul_Ok a b
  have hz : Iv.valid ⟨0, 0⟩ = true := by decide
  simp only [Iv.add, hz, valid_of h, Bool.and_self, cond_true, Int.zero_add]
  unfold Ok at h
  rw [clampI_id (by omega), clampI_id (by omega)]
theorem add_zero_mul' (a b : Iv) : Iv.add ⟨0, 0⟩ ⟨(Iv.mul a b).lo, (Iv.mul a b).hi⟩ = Iv.mul a b := add_zero_mul a b
theorem lim_ref (x : Int) : max (-65536) (min x 65536) = limI x := by unfold limI; omega
end Go.Sx

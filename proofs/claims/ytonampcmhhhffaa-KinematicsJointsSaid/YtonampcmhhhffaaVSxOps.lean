/- The operations' rules of the symbolic executor, for any program. No condition. -/
import Derived.Test.YtonampcmhhhffaaVSx
import Derived.WalkKit
namespace Go.Sx
open Go.RowKit

section
variable {P : Program} {n : Nat} {w0 : Base} {ops : Array Oper} {Q : Exit → Act → World → Prop} {S : Slots} {H : Heap}
variable {d : Option Tmp} {ty : TypeId} {pos : String} {af : Array Edge} {g : Option (Nat × Bool)}

theorem evD_of {x : Operand} {v : Value} (h : ev S x = some v) : evD S x = v := by simp [evD, h]

/-- An operation whose run yields v and leaves the world alone. -/
theorem opV_of {o : Oper} {v : Value} (hk : knownB S o = true) (hs : noSel o = true) (h : ∀ w, Knows w0 H w → (execOp (evD S) o).run P w = .ok (.value v) w) : OpV P w0 S H o v :=
  ⟨hk, hs, fun w k => by rw [h w k]; exact ⟨Grow.refl _, rfl⟩⟩

theorem opV_move {x : Operand} {v : Value} (hx : ev S x = some v) : OpV P w0 S H ⟨d, .move x, ty, pos, af, g⟩ v :=
  opV_of (by simp [knownB, Op.operands, hx]) rfl fun w _ => by simp [execOp, evD_of hx]
theorem opV_assign {x : Operand} {v : Value} (hx : ev S x = some v) : OpV P w0 S H ⟨d, .assign x, ty, pos, af, g⟩ v :=
  opV_of (by simp [knownB, Op.operands, hx]) rfl fun w _ => by simp [execOp, evD_of hx]
theorem opV_pick_t {c x y : Operand} {b : Bool} {v u : Value} (hc : ev S c = some (.bool b)) (hb : b = true) (hx : ev S x = some v) (hy : ev S y = some u) : OpV P w0 S H ⟨d, .pick c x y, ty, pos, af, g⟩ v :=
  opV_of (by simp [knownB, Op.operands, hx, hc, hy]) rfl fun w _ => by simp [execOp, evD_of hx, evD_of hc, hb, asBool]
theorem opV_pick_f {c x y : Operand} {b : Bool} {v u : Value} (hc : ev S c = some (.bool b)) (hb : b = false) (hx : ev S x = some u) (hy : ev S y = some v) : OpV P w0 S H ⟨d, .pick c x y, ty, pos, af, g⟩ v :=
  opV_of (by simp [knownB, Op.operands, hx, hc, hy]) rfl fun w _ => by simp [execOp, evD_of hy, evD_of hc, hb, asBool]

section ints
variable {x y : Operand} {k : IntKind} {m r q : Int} {t t' : TypeId}
theorem opV_add (hx : ev S x = some (.int k m)) (hy : ev S y = some (.int k r)) (hq : k.wrap (m + r) = q) : OpV P w0 S H ⟨d, .binOp .add t x y t', ty, pos, af, g⟩ (.int k q) :=
  opV_of (by simp [knownB, Op.operands, hx, hy]) rfl fun w _ => by subst hq; cases k <;> simp [execOp, evD_of hx, evD_of hy, eqGuard, binOp, Op.intArith]
theorem opV_sub (hx : ev S x = some (.int k m)) (hy : ev S y = some (.int k r)) (hq : k.wrap (m - r) = q) : OpV P w0 S H ⟨d, .binOp .sub t x y t', ty, pos, af, g⟩ (.int k q) :=
  opV_of (by simp [knownB, Op.operands, hx, hy]) rfl fun w _ => by subst hq; cases k <;> simp [execOp, evD_of hx, evD_of hy, eqGuard, binOp, Op.intArith]
theorem opV_mul (hx : ev S x = some (.int k m)) (hy : ev S y = some (.int k r)) (hq : k.wrap (m * r) = q) : OpV P w0 S H ⟨d, .binOp .mul t x y t', ty, pos, af, g⟩ (.int k q) :=
  opV_of (by simp [knownB, Op.operands, hx, hy]) rfl fun w _ => by subst hq; cases k <;> simp [execOp, evD_of hx, evD_of hy, eqGuard, binOp, Op.intArith]
theorem opV_quo (hx : ev S x = some (.int k m)) (hy : ev S y = some (.int k r)) (h0 : r ≠ 0) (hq : k.wrap (m.tdiv r) = q) : OpV P w0 S H ⟨d, .binOp .quo t x y t', ty, pos, af, g⟩ (.int k q) :=
  opV_of (by simp [knownB, Op.operands, hx, hy]) rfl fun w _ => by subst hq; cases k <;> simp [execOp, evD_of hx, evD_of hy, eqGuard, binOp, Op.intDiv, h0]
theorem opV_rem (hx : ev S x = some (.int k m)) (hy : ev S y = some (.int k r)) (h0 : r ≠ 0) (hq : m.tmod r = q) : OpV P w0 S H ⟨d, .binOp .rem t x y t', ty, pos, af, g⟩ (.int k q) :=
  opV_of (by simp [knownB, Op.operands, hx, hy]) rfl fun w _ => by subst hq; cases k <;> simp [execOp, evD_of hx, evD_of hy, eqGuard, binOp, Op.intDiv, h0]
theorem opV_and (hx : ev S x = some (.int k m)) (hy : ev S y = some (.int k r)) (hq : k.wrap ((BitVec.ofInt k.bits m &&& BitVec.ofInt k.bits r).toNat) = q) : OpV P w0 S H ⟨d, .binOp .and t x y t', ty, pos, af, g⟩ (.int k q) :=
  opV_of (by simp [knownB, Op.operands, hx, hy]) rfl fun w _ => by subst hq; cases k <;> simp [execOp, evD_of hx, evD_of hy, eqGuard, binOp, Op.intBits]
theorem opV_shr {k' : IntKind} (hx : ev S x = some (.int k m)) (hy : ev S y = some (.int k' r)) (h0 : 0 ≤ r) (hq : m.fdiv (2 ^ (min r.toNat k.bits)) = q) : OpV P w0 S H ⟨d, .binOp .shr t x y t', ty, pos, af, g⟩ (.int k q) :=
  opV_of (by simp [knownB, Op.operands, hx, hy]) rfl fun w _ => by
    have h1 : ¬ r < 0 := by omega
    subst hq; simp [execOp, evD_of hx, evD_of hy, eqGuard, binOp, Op.shift, h1]
theorem opV_shl {k' : IntKind} (hx : ev S x = some (.int k m)) (hy : ev S y = some (.int k' r)) (h0 : 0 ≤ r) (hq : k.wrap (m * 2 ^ (min r.toNat k.bits)) = q) : OpV P w0 S H ⟨d, .binOp .shl t x y t', ty, pos, af, g⟩ (.int k q) :=
  opV_of (by simp [knownB, Op.operands, hx, hy]) rfl fun w _ => by
    have h1 : ¬ r < 0 := by omega
    subst hq; simp [execOp, evD_of hx, evD_of hy, eqGuard, binOp, Op.shift, h1]
theorem opV_lss (hx : ev S x = some (.int k m)) (hy : ev S y = some (.int k r)) : OpV P w0 S H ⟨d, .binOp .lss t x y t', ty, pos, af, g⟩ (.bool (decide (m < r))) :=
  opV_of (by simp [knownB, Op.operands, hx, hy]) rfl fun w _ => by cases k <;> simp [execOp, evD_of hx, evD_of hy, eqGuard, binOp, Op.intCmp]
theorem opV_leq (hx : ev S x = some (.int k m)) (hy : ev S y = some (.int k r)) : OpV P w0 S H ⟨d, .binOp .leq t x y t', ty, pos, af, g⟩ (.bool (decide (m ≤ r))) :=
  opV_of (by simp [knownB, Op.operands, hx, hy]) rfl fun w _ => by cases k <;> simp [execOp, evD_of hx, evD_of hy, eqGuard, binOp, Op.intCmp]
theorem opV_gtr (hx : ev S x = some (.int k m)) (hy : ev S y = some (.int k r)) : OpV P w0 S H ⟨d, .binOp .gtr t x y t', ty, pos, af, g⟩ (.bool (decide (r < m))) :=
  opV_of (by simp [knownB, Op.operands, hx, hy]) rfl fun w _ => by cases k <;> simp [execOp, evD_of hx, evD_of hy, eqGuard, binOp, Op.intCmp]
theorem opV_geq (hx : ev S x = some (.int k m)) (hy : ev S y = some (.int k r)) : OpV P w0 S H ⟨d, .binOp .geq t x y t', ty, pos, af, g⟩ (.bool (decide (r ≤ m))) :=
  opV_of (by simp [knownB, Op.operands, hx, hy]) rfl fun w _ => by cases k <;> simp [execOp, evD_of hx, evD_of hy, eqGuard, binOp, Op.intCmp]
theorem opV_eql (hx : ev S x = some (.int k m)) (hy : ev S y = some (.int k r)) : OpV P w0 S H ⟨d, .binOp .eql t x y t', ty, pos, af, g⟩ (.bool (decide (m = r))) :=
  opV_of (by simp [knownB, Op.operands, hx, hy]) rfl fun w _ => by cases k <;> simp [execOp, evD_of hx, evD_of hy, eqGuard, binOp, Op.intCmp] <;> rfl
theorem opV_neq (hx : ev S x = some (.int k m)) (hy : ev S y = some (.int k r)) : OpV P w0 S H ⟨d, .binOp .neq t x y t', ty, pos, af, g⟩ (.bool (!decide (m = r))) :=
  opV_of (by simp [knownB, Op.operands, hx, hy]) rfl fun w _ => by cases k <;> simp [execOp, evD_of hx, evD_of hy, eqGuard, binOp, Op.intCmp] <;> rfl
theorem opV_neg (hx : ev S x = some (.int k m)) (hq : k.wrap (0 - m) = q) : OpV P w0 S H ⟨d, .unOp .neg t x, ty, pos, af, g⟩ (.int k q) :=
  opV_of (by simp [knownB, Op.operands, hx]) rfl fun w _ => by subst hq; simp [execOp, evD_of hx, Op.unary, Op.intArith]
theorem opV_not {b : Bool} (hx : ev S x = some (.bool b)) : OpV P w0 S H ⟨d, .unOp .not t x, ty, pos, af, g⟩ (.bool (!b)) :=
  opV_of (by simp [knownB, Op.operands, hx]) rfl fun w _ => by simp [execOp, evD_of hx, Op.unary]
theorem opV_min2 {ats : Array TypeId} (hx : ev S x = some (.int k m)) (hy : ev S y = some (.int k r)) : OpV P w0 S H ⟨d, .call ⟨.builtin .min, #[x, y], ats⟩, ty, pos, af, g⟩ (.int k (min m r)) :=
  opV_of (by simp [knownB, Op.operands, Call.operands, hx, hy]) rfl fun w _ => by
    simp [execOp, resolve, invoke, builtin, evD_of hx, evD_of hy, Builtin.min_, Builtin.min2]; omega
theorem opV_max2 {ats : Array TypeId} (hx : ev S x = some (.int k m)) (hy : ev S y = some (.int k r)) : OpV P w0 S H ⟨d, .call ⟨.builtin .max, #[x, y], ats⟩, ty, pos, af, g⟩ (.int k (max m r)) :=
  opV_of (by simp [knownB, Op.operands, Call.operands, hx, hy]) rfl fun w _ => by
    simp [execOp, resolve, invoke, builtin, evD_of hx, evD_of hy, Builtin.max_, Builtin.max2]; omega
end ints

end
end Go.Sx

/- Strings: parts of a string. For any program. No condition. -/
import Derived.Test.YtonampcmhhhffaaVSxTellM
namespace Go.Sx
open Go.RowKit
def vS (s : ByteArray) : Value := .string s
section
variable {P : Program} {n : Nat} {w0 : Base} {ops : Array Oper} {Q : Exit → Act → World → Prop} {S : Slots} {H : Heap}
variable {d : Option Tmp} {ty : TypeId} {pos : String} {af : Array Edge} {g : Option (Nat × Bool)}
theorem opV_sliceStr {t : TypeId} {x lo hi : Operand} {s : ByteArray} {k k' : IntKind} {i j : Int} (ht : P.underlying t = some .string) (hx : ev S x = some (.string s)) (hlo : ev S lo = some (.int k i)) (hhi : ev S hi = some (.int k' j)) (h0 : 0 ≤ i) (h1 : i ≤ j) (h2 : j ≤ s.size) :
    OpV P w0 S H ⟨d, .slice t x (some lo) (some hi) none, ty, pos, af, g⟩ (.string (s.extract i.toNat j.toNat)) :=
  opV_of (by simp [knownB, Op.operands, hx, hlo, hhi]) rfl fun w _ => by
    have e1 : 0 ≤ j := by omega
    have e2 : i ≤ (j.toNat : Int) := by omega
    simp [execOp, evD_of hx, evD_of hlo, evD_of hhi, Instr.sliceAt, Instr.slice, run_underlying ht, Instr.sliceBounds, Instr.sliceBound, asIntOf, h0, e1, h2, e2]
    intro h
    omega
end
end Go.Sx

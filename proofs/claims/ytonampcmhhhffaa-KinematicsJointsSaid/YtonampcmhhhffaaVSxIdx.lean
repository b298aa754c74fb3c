/- An array value that is indexed; masks. No condition. -/
import Derived.Test.YtonampcmhhhffaaVDat
namespace Go.Sx
section
variable {P : Program} {n : Nat} {w0 : Base} {ops : Array Oper} {Q : Exit → Act → World → Prop} {S : Slots} {H : Heap}
variable {d : Option Tmp} {ty : TypeId} {pos : String} {af : Array Edge} {g : Option (Nat × Bool)}
theorem opV_index {t : Nat} {x y : Operand} {a i v : Value} (hx : ev S x = some a) (hy : ev S y = some i) (h : ∀ w : World, (Instr.index t a i).run P w = .ok v w) : OpV P w0 S H ⟨d, .index t x y, ty, pos, af, g⟩ v :=
  opV_of (by simp [knownB, Op.operands, hx, hy]) rfl fun w _ => by simp [execOp, evD_of hx, evD_of hy, h w]
end
theorem and_7 {a : Int} : IntKind.i64.wrap ((BitVec.ofInt IntKind.i64.bits a &&& BitVec.ofInt IntKind.i64.bits 7).toNat) = a % 8 := by
  have hb : IntKind.i64.bits = 64 := rfl
  have h1 : (BitVec.ofInt IntKind.i64.bits a &&& BitVec.ofInt IntKind.i64.bits 7).toNat = (a % 8).toNat := by
    rw [hb, BitVec.toNat_and]
    have e1 : (BitVec.ofInt 64 7).toNat = 2 ^ 3 - 1 := by decide
    rw [e1, Nat.and_two_pow_sub_one_eq_mod, BitVec.toNat_ofInt]
    omega
  rw [h1]
  refine (i64_in ?_).trans ?_ <;> omega
theorem and_1 {a : Int} : IntKind.i64.wrap ((BitVec.ofInt IntKind.i64.bits a &&& BitVec.ofInt IntKind.i64.bits 1).toNat) = a % 2 := by
  have hb : IntKind.i64.bits = 64 := rfl
  have h1 : (BitVec.ofInt IntKind.i64.bits a &&& BitVec.ofInt IntKind.i64.bits 1).toNat = (a % 2).toNat := by
    rw [hb, BitVec.toNat_and]
    have e1 : (BitVec.ofInt 64 1).toNat = 2 ^ 1 - 1 := by decide
    rw [e1, Nat.and_two_pow_sub_one_eq_mod, BitVec.toNat_ofInt]
    omega
  rw [h1]
  refine (i64_in ?_).trans ?_ <;> omega
theorem shr_3 {a : Int} : a.fdiv (2 ^ min (3 : Int).toNat IntKind.i64.bits) = a / 8 := (shr_eq (k := 3) (by decide) (by decide)).trans rfl
theorem shr_1 {a : Int} : a.fdiv (2 ^ min (1 : Int).toNat IntKind.i64.bits) = a / 2 := (shr_eq (k := 1) (by decide) (by decide)).trans rfl
theorem shr_2 {a : Int} : a.fdiv (2 ^ min (2 : Int).toNat IntKind.i64.bits) = a / 4 := (shr_eq (k := 2) (by decide) (by decide)).trans rfl
end Go.Sx

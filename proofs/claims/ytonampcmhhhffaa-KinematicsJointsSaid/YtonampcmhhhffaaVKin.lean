/- Joints and their motions as plain functions; reading a field of a struct value. No condition. -/
import Derived.Test.YtonampcmhhhffaaVBox
namespace Go.Sx
section
variable {P : Program} {w0 : Base} {S : Slots} {H : Heap} {d : Option Tmp} {ty : TypeId} {pos : String} {af : Array Edge} {g : Option (Nat × Bool)}
def fldB (P : Program) (s f off : Nat) : Bool :=
  match P.underlying s with
  | some (.struct fields) => match fields[f]? with
    | some fld => fld.offset == off && tyB P fld.type false 1
    | none => false
  | _ => false
theorem opV_field1 {s f off' : Nat} {x : Operand} {vs : Array Value} {v : Value} (hF : fldB P s f off' = true) (hx : ev S x = some (.agg vs)) (hv : vs[off']? = some v) :
    OpV P w0 S H ⟨d, .field s x f, ty, pos, af, g⟩ v :=
  opV_of (by simp [knownB, Op.operands, hx]) rfl fun w _ => by
    unfold fldB at hF
    cases hu : P.underlying s with
    | none => simp [hu] at hF
    | some ds =>
      cases ds <;> simp [hu] at hF
      rename_i fields
      cases hf : fields[f]? with
      | none => simp [hf] at hF
      | some fld =>
        simp [hf] at hF
        obtain ⟨h1, h2⟩ := hF
        subst h1
        simp [execOp, evD_of hx, Instr.field, run_underlying hu, hf, asAgg, part, tyB_agg h2, hv]
end
def motV (ft fs fr : Nat) (k : Int) : Value := .agg #[.func (.func (if k = 1 ∨ k = 2 ∨ k = 3 then ft else if k = 4 ∨ k = 5 ∨ k = 6 then fs else fr)) #[.int .i64 (if k = 1 ∨ k = 2 ∨ k = 3 then k - 1 else if k = 4 ∨ k = 5 ∨ k = 6 then k - 4 else 0)] #[]]
theorem mot_t {ft fs fr : Nat} {k : Int} (h : k = 1 ∨ k = 2 ∨ k = 3) : motV ft fs fr k = .agg #[.func (.func ft) #[.int .i64 (k - 1)] #[]] := by
  unfold motV; rw [if_pos h, if_pos h]
theorem mot_s {ft fs fr : Nat} {k : Int} (h : k = 4 ∨ k = 5 ∨ k = 6) : motV ft fs fr k = .agg #[.func (.func fs) #[.int .i64 (k - 4)] #[]] := by
  have h2 : ¬ (k = 1 ∨ k = 2 ∨ k = 3) := by omega
  unfold motV; rw [if_neg h2, if_neg h2, if_pos h, if_pos h]
theorem mot_r {ft fs fr : Nat} {k : Int} (h : ¬ (k = 1 ∨ k = 2 ∨ k = 3)) (h2 : ¬ (k = 4 ∨ k = 5 ∨ k = 6)) : motV ft fs fr k = .agg #[.func (.func fr) #[.int .i64 0] #[]] := by
  unfold motV; rw [if_neg h, if_neg h, if_neg h2, if_neg h2]
def V3.put (k : Int) (a : Iv) : V3 := if k = 0 then ⟨a, iv0, iv0⟩ else if k = 1 then ⟨iv0, a, iv0⟩ else ⟨iv0, iv0, a⟩
def jMot (k : Int) (a : Iv) : Po := if k = 1 ∨ k = 2 ∨ k = 3 then Po.turn (k - 1) a else if k = 4 ∨ k = 5 ∨ k = 6 then Po.shift (V3.put (k - 4) a) else Po.rest
theorem jMot_t {k : Int} {a : Iv} (h : k = 1 ∨ k = 2 ∨ k = 3) : jMot k a = Po.turn (k - 1) a := if_pos h
theorem jMot_s {k : Int} {a : Iv} (h : k = 4 ∨ k = 5 ∨ k = 6) : jMot k a = Po.shift (V3.put (k - 4) a) := by
  have h2 : ¬ (k = 1 ∨ k = 2 ∨ k = 3) := by omega
  unfold jMot; rw [if_neg h2, if_pos h]
theorem jMot_r {k : Int} {a : Iv} (h : ¬ (k = 1 ∨ k = 2 ∨ k = 3)) (h2 : ¬ (k = 4 ∨ k = 5 ∨ k = 6)) : jMot k a = Po.rest := by
  unfold jMot; rw [if_neg h, if_neg h2]
def jPose (k : Int) (o : Z3) (a : Iv) : Po := Po.mul (Po.shift (V3.of o)) (jMot k a)
end Go.Sx

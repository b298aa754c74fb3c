/- Equality of plain structs and arrays, regions without calls in every order, more operations: rules of the symbolic executor, for any program. No condition. -/
import Derived.Test.YtonampcmhhhffaaVSxBuild
import Derived.ChangeKeysEq
namespace Go.Sx
open Go.RowKit

/-! ### '==' on structs and arrays of integers and bools -/
def eqCell : Value → Value → Bool
  | .int _ a, .int _ b => decide (a = b)
  | .bool a, .bool b => a == b
  | _, _ => false
def eqCells : List Value → List Value → Bool
  | [], [] => true
  | x :: xs, y :: ys => eqCell x y && eqCells xs ys
  | _, _ => false
def kindIs : TypeDesc → Value → Bool
  | .int k, .int k' _ => k == k'
  | .bool, .bool _ => true
  | _, _ => false

def oneC (ds : TypeDesc) : List Value → Bool
  | [c] => kindIs ds c
  | _ => false

def fieldsC (f : TypeId → List Value → Bool) (P : Program) : List Field → Nat → List Value → Bool
  | [], _, cs => cs.isEmpty
  | fd :: fs, o, cs => fd.name != "_" && Nat.beq fd.offset o && (match P.info? fd.type with
      | some i => decide (i.size ≤ cs.length) && f fd.type (cs.take i.size) && fieldsC f P fs (o + i.size) (cs.drop i.size)
      | none => false)
def itemsC (f : List Value → Bool) (size : Nat) : Nat → List Value → Bool
  | 0, cs => cs.isEmpty
  | k + 1, cs => decide (size ≤ cs.length) && f (cs.take size) && itemsC f size k (cs.drop size)

/-- the cells fit the type: integers of the right kind, bools, nested in structs and arrays -/
def cellsB (P : Program) : Nat → TypeId → List Value → Bool
  | 0, _, _ => false
  | d + 1, t, cs => match P.underlying t with
    | some (.struct fields) => !P.stoodInHeld t && fieldsC (cellsB P d) P fields.toList 0 cs
    | some (.array len e) => (match P.info? e with | some i => itemsC (cellsB P d e) i.size len cs | none => false)
    | some ds => oneC ds cs
    | none => false

def mkV (P : Program) (t : TypeId) (cs : List Value) : Value :=
  match P.underlying t with
  | some (.struct _) => .agg cs.toArray
  | some (.array _ _) => .agg cs.toArray
  | _ => cs.headD undef

theorem eqCells_append {a b c e : List Value} (h : a.length = c.length) : eqCells (a ++ b) (c ++ e) = (eqCells a c && eqCells b e) := by
  induction a generalizing c with
  | nil => cases c with
    | nil => simp [eqCells]
    | cons _ _ => simp at h
  | cons x a ih => cases c with
    | nil => simp at h
    | cons y c => simp [eqCells, ih (by simpa using h), Bool.and_assoc]

theorem eqCells_split {xs ys : List Value} (k : Nat) (hx : k ≤ xs.length) (hy : k ≤ ys.length) : eqCells xs ys = (eqCells (xs.take k) (ys.take k) && eqCells (xs.drop k) (ys.drop k)) := by
  conv => lhs; rw [← List.take_append_drop k xs, ← List.take_append_drop k ys]
  exact eqCells_append (by simp; omega)

section
variable {P : Program} (w : World)

theorem run_part {t : TypeId} {i : TypeInfo} (hi : P.info? t = some i) {cs : List Value} {o : Nat} {d : Nat} (hc : cellsB P d t ((cs.drop o).take i.size) = true) :
    (part t cs.toArray o).run P w = .ok (mkV P t ((cs.drop o).take i.size)) w := by
  cases d with
  | zero => simp [cellsB] at hc
  | succ d =>
  have hsz : (sizeOf t).run P w = .ok i.size w := by simp [sizeOf, typeInfo, hi]
  unfold cellsB at hc
  cases hu : P.underlying t with
  | none => simp [hu] at hc
  | some ds =>
    have sc : oneC ds ((cs.drop o).take i.size) = true → (isAgg t).run P w = .ok false w → mkV P t ((cs.drop o).take i.size) = ((cs.drop o).take i.size).headD undef →
        (part t cs.toArray o).run P w = .ok (mkV P t ((cs.drop o).take i.size)) w := fun h1 h2 h3 => by
      cases hl : (cs.drop o).take i.size with
      | nil => rw [hl] at h1; cases h1
      | cons c l =>
        cases l with
        | cons _ _ => rw [hl] at h1; cases h1
        | nil =>
          have hco : cs[o]? = some c := by
            have := congrArg (·[0]?) hl
            simp only [List.getElem?_take, List.getElem?_drop, Nat.add_zero, List.getElem?_cons_zero] at this
            split at this
            · exact this
            · cases this
          rw [hl] at h3
          rw [h3]
          simp [part, h2, hco]
    cases ds <;> simp only [hu] at hc
    case struct fs => simp [part, isAgg, run_underlying hu, hsz, mkV, hu]
    case array len e => simp [part, isAgg, run_underlying hu, hsz, mkV, hu]
    all_goals first
      | exact sc hc (by simp [isAgg, run_underlying hu]) (by simp [mkV, hu])

def EqC (P : Program) (d : Nat) (t : TypeId) (f : TypeId → List Value → Bool) : Prop :=
  ∀ w xs ys, f t xs = true → f t ys = true → (Op.equalIn d t (mkV P t xs) (mkV P t ys)).run P w = .ok (eqCells xs ys) w

theorem run_eqFieldsC {d m : Nat} (ih : ∀ t, EqC P d t (cellsB P m)) {cs es : List Value} : ∀ (fs : List Field) (o : Nat) (w : World),
    fieldsC (cellsB P m) P fs o (cs.drop o) = true → fieldsC (cellsB P m) P fs o (es.drop o) = true → o ≤ cs.length → o ≤ es.length →
    (Op.eqFields d cs.toArray es.toArray fs).run P w = .ok (eqCells (cs.drop o) (es.drop o)) w
  | [], o, w, h1, h2, _, _ => by
    simp only [fieldsC, List.isEmpty_iff] at h1 h2
    simp [Op.eqFields, h1, h2, eqCells]
  | f :: fs, o, w, h1, h2, hc, he => by
    simp only [fieldsC, Bool.and_eq_true, bne_iff_ne] at h1 h2
    obtain ⟨⟨hn, ho⟩, h1⟩ := h1
    have ho' := Nat.eq_of_beq_eq_true ho
    cases hi : P.info? f.type with
    | none => simp [hi] at h1
    | some i =>
      simp only [hi, Bool.and_eq_true, decide_eq_true_eq, List.length_drop, List.drop_drop] at h1 h2
      obtain ⟨⟨l1, c1⟩, r1⟩ := h1
      obtain ⟨_, ⟨l2, c2⟩, r2⟩ := h2
      have p1 := run_part w hi (o := o) c1
      have p2 := run_part w hi (o := o) c2
      have e3 := ih f.type w _ _ c1 c2
      have hrec := run_eqFieldsC ih (cs := cs) (es := es) fs (o + i.size) w r1 r2 (by omega) (by omega)
      rw [eqCells_split i.size (by simp; omega) (by simp; omega)]
      simp only [Op.eqFields, hn, ne_eq, not_false_eq_true, if_true, Sem.run_bind, ho', p1, p2, e3, Result.andThen_ok, List.drop_drop]
      cases hb : eqCells ((cs.drop o).take i.size) ((es.drop o).take i.size) with
      | false => simp
      | true => simpa using hrec

theorem run_eqItemsC {d m : Nat} {e : TypeId} {i : TypeInfo} (hi : P.info? e = some i) (ih : EqC P d e (cellsB P m)) {cs es : List Value} : ∀ (k j : Nat) (w : World),
    itemsC (cellsB P m e) i.size k (cs.drop (j * i.size)) = true → itemsC (cellsB P m e) i.size k (es.drop (j * i.size)) = true → j * i.size ≤ cs.length → j * i.size ≤ es.length →
    (Op.eqItems d e i.size cs.toArray es.toArray (List.range' j k)).run P w = .ok (eqCells (cs.drop (j * i.size)) (es.drop (j * i.size))) w
  | 0, j, w, h1, h2, _, _ => by
    simp only [itemsC, List.isEmpty_iff] at h1 h2
    simp [Op.eqItems, h1, h2, eqCells]
  | k + 1, j, w, h1, h2, hc, he => by
    simp only [itemsC, Bool.and_eq_true, decide_eq_true_eq, List.length_drop, List.drop_drop] at h1 h2
    obtain ⟨⟨l1, c1⟩, r1⟩ := h1
    obtain ⟨⟨l2, c2⟩, r2⟩ := h2
    have hj : j * i.size + i.size = (j + 1) * i.size := by rw [Nat.add_mul]; omega
    rw [hj] at r1 r2
    have p1 := run_part w hi (o := j * i.size) c1
    have p2 := run_part w hi (o := j * i.size) c2
    have e3 := ih w _ _ c1 c2
    have hrec := run_eqItemsC hi ih (cs := cs) (es := es) k (j + 1) w r1 r2 (by omega) (by omega)
    rw [eqCells_split i.size (by simp; omega) (by simp; omega)]
    simp only [List.range'_succ, Op.eqItems, Sem.run_bind, p1, p2, e3, Result.andThen_ok, List.drop_drop, hj]
    cases hb : eqCells ((cs.drop (j * i.size)).take i.size) ((es.drop (j * i.size)).take i.size) with
    | false => simp
    | true => simpa using hrec

theorem eqC_all (d : Nat) : ∀ (m : Nat) (t : TypeId), EqC P (d + m) t (cellsB P m)
  | 0, t => fun w xs ys h => by simp [cellsB] at h
  | m + 1, t => fun w xs ys h1 h2 => by
    unfold cellsB at h1 h2
    rw [show d + (m + 1) = (d + m) + 1 from rfl]
    cases hu : P.underlying t with
    | none => simp [hu] at h1
    | some ds =>
      have sc : oneC ds xs = true → oneC ds ys = true → mkV P t xs = xs.headD undef → mkV P t ys = ys.headD undef →
          (Op.equalIn ((d + m) + 1) t (mkV P t xs) (mkV P t ys)).run P w = .ok (eqCells xs ys) w := fun h1 h2 e1 e2 => by
        cases xs with
        | nil => cases h1
        | cons x xs =>
        cases xs with
        | cons _ _ => cases h1
        | nil =>
        cases ys with
        | nil => cases h2
        | cons y ys =>
        cases ys with
        | cons _ _ => cases h2
        | nil =>
          rw [e1, e2]
          cases ds <;> cases x <;> simp [oneC, kindIs] at h1 <;> cases y <;> simp [oneC, kindIs] at h2
          · simp only [List.headD_cons]
            rw [run_equalIn_bool w _ t _ _ hu]
            simp [eqCells, eqCell]
          · subst h1; subst h2
            simp only [List.headD_cons]
            rw [run_equalIn_int w _ t _ _ _ _ hu]
            simp [eqCells, eqCell]
            rfl
      cases ds <;> simp only [hu] at h1 h2
      case struct fs =>
        simp only [Bool.and_eq_true, Bool.not_eq_true'] at h1 h2
        have hfs : P.fieldsOf t = fs := by simp [Program.fieldsOf, hu]
        have := run_eqFieldsC (P := P) (d := d + m) (fun t => eqC_all d m t) (cs := xs) (es := ys) fs.toList 0 w (by simpa using h1.2) (by simpa using h2.2) (Nat.zero_le _) (Nat.zero_le _)
        simp only [mkV, hu]
        rw [run_equalIn_struct w (d + m) t _ _ (by rw [hfs]; exact hu) h1.1, hfs]
        simpa using this
      case array len e =>
        cases hi : P.info? e with
        | none => simp [hi] at h1
        | some i =>
          simp only [hi] at h1 h2
          have hcell : P.cellsOf e = i.size := by simp [Program.cellsOf, hi]
          have := run_eqItemsC (P := P) hi (eqC_all d m e) (cs := xs) (es := ys) len 0 w (by simpa using h1) (by simpa using h2) (by simp) (by simp)
          simp only [mkV, hu]
          rw [run_equalIn_array w (d + m) _ _ hu hi, hcell, List.range_eq_range']
          simpa using this
      all_goals exact sc h1 h2 (by simp [mkV, hu]) (by simp [mkV, hu])

end

section
variable {P : Program} {n : Nat} {w0 : Base} {ops : Array Oper} {Q : Exit → Act → World → Prop} {S : Slots} {H : Heap}
variable {d : Option Tmp} {ty : TypeId} {pos : String} {af : Array Edge} {g : Option (Nat × Bool)}

def aggB (P : Program) (t : TypeId) : Bool := (match P.underlying t with | some (.struct _) => true | some (.array _ _) => true | _ => false) && !P.eqGuardType P.depth t

theorem opV_eqA {x y : Operand} {t t' : TypeId} {xs ys : List Value} (m : Nat) (hm : Nat.ble m 10000 = true) (hT : aggB P t = true) (hx : ev S x = some (.agg xs.toArray)) (hy : ev S y = some (.agg ys.toArray)) (hcx : cellsB P m t xs = true) (hcy : cellsB P m t ys = true) :
    OpV P w0 S H ⟨d, .binOp .eql t x y t', ty, pos, af, g⟩ (.bool (eqCells xs ys)) :=
  opV_of (by simp [knownB, Op.operands, hx, hy]) rfl fun w _ => by
    simp only [aggB, Bool.and_eq_true, Bool.not_eq_true'] at hT
    obtain ⟨k, hk⟩ : ∃ k, k + m = 10000 := ⟨10000 - m, by have := Nat.le_of_ble_eq_true hm; omega⟩
    have h1 := eqC_all (P := P) k m t w xs ys hcx hcy
    have e1 : mkV P t xs = .agg xs.toArray := by
      unfold mkV
      cases hu : P.underlying t with
      | none => simp [hu] at hT
      | some ds => cases ds <;> simp [hu] at hT ⊢
    have e2 : mkV P t ys = .agg ys.toArray := by
      unfold mkV
      cases hu : P.underlying t with
      | none => simp [hu] at hT
      | some ds => cases ds <;> simp [hu] at hT ⊢
    rw [e1, e2, hk] at h1
    have h2 := run_eqGuard_agg w .eql t x y xs.toArray ys.toArray hT.2
    have h3 := run_eql_struct (P := P) w t xs.toArray ys.toArray
    rw [h1] at h3
    simp [execOp, evD_of hx, evD_of hy, h2, h3]

theorem opV_min4 {x y z u : Operand} {k : IntKind} {m r s q : Int} {ats : Array TypeId} (hx : ev S x = some (.int k m)) (hy : ev S y = some (.int k r)) (hz : ev S z = some (.int k s)) (hu : ev S u = some (.int k q)) :
    OpV P w0 S H ⟨d, .call ⟨.builtin .min, #[x, y, z, u], ats⟩, ty, pos, af, g⟩ (.int k (min (min (min m r) s) q)) :=
  opV_of (by simp [knownB, Op.operands, Call.operands, hx, hy, hz, hu]) rfl fun w _ => by
    simp [execOp, resolve, invoke, builtin, evD_of hx, evD_of hy, evD_of hz, evD_of hu, Builtin.min_, Builtin.min2]
    omega
theorem opV_max4 {x y z u : Operand} {k : IntKind} {m r s q : Int} {ats : Array TypeId} (hx : ev S x = some (.int k m)) (hy : ev S y = some (.int k r)) (hz : ev S z = some (.int k s)) (hu : ev S u = some (.int k q)) :
    OpV P w0 S H ⟨d, .call ⟨.builtin .max, #[x, y, z, u], ats⟩, ty, pos, af, g⟩ (.int k (max (max (max m r) s) q)) :=
  opV_of (by simp [knownB, Op.operands, Call.operands, hx, hy, hz, hu]) rfl fun w _ => by
    simp [execOp, resolve, invoke, builtin, evD_of hx, evD_of hy, evD_of hz, evD_of hu, Builtin.max_, Builtin.max2]
    omega

end
end Go.Sx

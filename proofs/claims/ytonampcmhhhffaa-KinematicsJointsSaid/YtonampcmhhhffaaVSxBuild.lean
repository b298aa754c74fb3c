/- Built values, equality of plain structs, small integer facts: rules of the symbolic executor, for any program. No condition. -/
import Derived.Test.YtonampcmhhhffaaVSxDraw
import Derived.Laws.Tables
namespace Go.Sx
open Go.RowKit

def evp (S : Slots) : List (Nat × Operand) → Option (List (Nat × Value))
  | [] => some []
  | (i, x) :: xs => match ev S x with
    | some v => consO (i, v) (evp S xs)
    | none => none

def fillV (pl : List (Nat × Nat)) : List Value → List (Nat × Value) → Option (List Value)
  | cs, [] => some cs
  | cs, (i, v) :: rest => match pl[i]? with
    | none => none
    | some (off, size) => bif Nat.beq v.cells.size size then (match spliceV cs off v.cells.toList with
        | some cs' => fillV pl cs' rest
        | none => none) else none

def layoutOf (P : Program) (t : TypeId) : Option (List Value × List (Nat × Nat)) :=
  match P.info? t, P.underlying t with
  | some it, some (.array n e) =>
    match it.zero, P.info? e with
    | some z, some ie => some (z.cells.toList, (List.range n).map fun i => (i * ie.size, ie.size))
    | _, _ => none
  | some it, some (.struct fields) =>
    match it.zero, fields.toList.mapM (fun f => (P.info? f.type).map fun i => (f.offset, i.size)) with
    | some z, some places => some (z.cells.toList, places)
    | _, _ => none
  | _, _ => none

theorem foldl_set (vs : List Value) : ∀ (k off : Nat) (cells : Array Value), off + k + vs.length ≤ cells.size →
    ((vs.zipIdx k).foldl (fun cs (x : Value × Nat) => cs.setIfInBounds (off + x.2) x.1) cells).toList = cells.toList.take (off + k) ++ vs ++ cells.toList.drop (off + k + vs.length) := by
  induction vs with
  | nil => intro k off cells _; simp
  | cons v vs ih =>
    intro k off cells h
    simp only [List.zipIdx_cons, List.foldl_cons]
    rw [ih (k + 1) off _ (by simp at h ⊢; omega)]
    simp only [Array.toList_setIfInBounds]
    have := list_seg_step cells.toList (off + k) v vs (by simp at h ⊢; omega)
    simpa [Nat.add_assoc, Nat.add_comm 1] using this

theorem fill_of {place : Nat → Option (Nat × Nat)} {pl : List (Nat × Nat)} (hp : ∀ i x, pl[i]? = some x → place i = some x) : ∀ (parts : List (Nat × Value)) (cells : List Value) (cs : List Value),
    fillV pl cells parts = some cs → Instr.fill place cells.toArray parts = some cs.toArray
  | [], cells, cs, h => by simp [fillV] at h; simp [Instr.fill, h]
  | (i, v) :: rest, cells, cs, h => by
    simp only [fillV] at h
    cases hi : pl[i]? with
    | none => simp [hi] at h
    | some x =>
      obtain ⟨off, size⟩ := x
      simp only [hi] at h
      cases hb : Nat.beq v.cells.size size with
      | false => simp [hb] at h
      | true =>
        simp only [hb, cond_true] at h
        have hsz := Nat.eq_of_beq_eq_true hb
        cases hs : spliceV cells off v.cells.toList with
        | none => simp [hs] at h
        | some cs' =>
          simp only [hs] at h
          obtain ⟨e, hl⟩ := spliceV_spec hs
          have hl' : off + v.cells.size ≤ cells.length := by simpa using hl
          have hf := foldl_set v.cells.toList 0 off cells.toArray (by simpa using hl)
          have hcs : (v.cells.zipIdx.foldl (fun cs (c, j) => cs.setIfInBounds (off + j) c) cells.toArray) = cs'.toArray := by
            apply Array.toList_inj.1
            rw [e]
            rw [← Array.foldl_toList]
            simp only [Array.toList_zipIdx]
            simpa using hf
          simp only [Instr.fill, hp i _ hi]
          rw [if_neg (by simp [hsz]; omega)]
          rw [hcs]
          exact fill_of hp rest cs' cs h

theorem built_of {P : Program} {t : TypeId} {z : List Value} {pl : List (Nat × Nat)} {parts : List (Nat × Value)} {cs : List Value} (hl : layoutOf P t = some (z, pl)) (hf : fillV pl z parts = some cs) :
    P.built t parts = some cs.toArray := by
  unfold layoutOf at hl
  unfold Program.built
  cases hit : P.info? t with
  | none => simp [hit] at hl
  | some it =>
    cases hu : P.underlying t with
    | none => simp [hit, hu] at hl
    | some ds =>
      cases ds <;> try (simp [hit, hu] at hl; done)
      case array n e =>
        cases hz : it.zero with
        | none => simp [hit, hu, hz] at hl
        | some zv =>
          cases hie : P.info? e with
          | none => simp [hit, hu, hz, hie] at hl
          | some ie =>
            simp only [hit, hu, hz, hie, Option.some.injEq, Prod.mk.injEq] at hl ⊢
            obtain ⟨rfl, rfl⟩ := hl
            have := fill_of (place := fun i => some (i * ie.size, ie.size)) (fun i x hi => by
              simp only [List.getElem?_map, Option.map_eq_some_iff] at hi
              obtain ⟨j, hj, rfl⟩ := hi
              have := (List.getElem?_eq_some_iff.1 hj)
              simp at this
              simp [this.2]) parts zv.cells.toList cs hf
            simpa using this
      case struct fields =>
        cases hz : it.zero with
        | none => simp [hit, hu, hz] at hl
        | some zv =>
          cases hp : fields.toList.mapM (fun f => (P.info? f.type).map fun i => (f.offset, i.size)) with
          | none => simp only [hit, hu, hz, hp] at hl; cases hl
          | some places =>
            simp only [hit, hu, hz, hp, Option.some.injEq, Prod.mk.injEq] at hl ⊢
            obtain ⟨rfl, rfl⟩ := hl
            have := fill_of (place := (places.toArray[·]?)) (fun i x hi => by simpa using hi) parts zv.cells.toList cs hf
            simpa using this

section
variable {P : Program} {n : Nat} {w0 : Base} {ops : Array Oper} {Q : Exit → Act → World → Prop} {S : Slots} {H : Heap}
variable {d : Option Tmp} {ty : TypeId} {pos : String} {af : Array Edge} {g : Option (Nat × Bool)}

theorem evp_spec {xs : List (Nat × Operand)} {vs : List (Nat × Value)} (h : evp S xs = some vs) : xs.map (fun x => (x.1, evD S x.2)) = vs ∧ ∀ x ∈ xs, (ev S x.2).isSome = true := by
  induction xs generalizing vs with
  | nil => simp [evp] at h; simp [h]
  | cons x xs ih =>
    obtain ⟨i, x⟩ := x
    simp only [evp] at h
    cases hx : ev S x with
    | none => simp [hx] at h
    | some v =>
      simp only [hx] at h
      obtain ⟨ws, hw, rfl⟩ := consO_some h
      obtain ⟨e, ha⟩ := ih hw
      refine ⟨by simp [evD_of hx, e], fun y hy => ?_⟩
      rcases List.mem_cons.1 hy with rfl | hy
      · simp [hx]
      · exact ha y hy

theorem opV_build {t : TypeId} {z : List Value} {pl : List (Nat × Nat)} {parts : List (Nat × Operand)} {vs : List (Nat × Value)} {cs : List Value} (hl : layoutOf P t = some (z, pl)) (hp : evp S parts = some vs)
    (hf : fillV pl z vs = some cs) : OpV P w0 S H ⟨d, .build t parts.toArray, ty, pos, af, g⟩ (.agg cs.toArray) := by
  obtain ⟨e, hk⟩ := evp_spec hp
  refine opV_of ?_ rfl fun w _ => ?_
  · simp only [knownB, Op.operands]
    rw [Array.all_eq_true_iff_forall_mem]
    intro x hx
    simp at hx
    obtain ⟨i, hi⟩ := hx
    exact hk _ hi
  · have := run_build (P := P) w t (parts.map (fun x => (x.1, evD S x.2))).toArray cs.toArray (by rw [List.toList_toArray, e]; exact built_of hl hf)
    have h2 : (parts.toArray.map fun (x : Nat × Operand) => (x.1, evD S x.2)) = (parts.map (fun x => (x.1, evD S x.2))).toArray := by simp
    simp only [execOp]
    rw [h2]
    simp [this]

end

theorem i64_in {x : Int} (h : -9223372036854775808 ≤ x ∧ x ≤ 9223372036854775807) : IntKind.i64.wrap x = x := by
  unfold IntKind.wrap
  have hb : IntKind.i64.bits = 64 := rfl
  have hs : IntKind.i64.signed = true := rfl
  simp only [hb, hs, Bool.true_and, decide_eq_true_eq]
  split <;> omega
theorem tdiv_nonneg {a b : Int} (ha : 0 ≤ a) (_hb : 0 ≤ b) : a.tdiv b = a / b := Int.tdiv_eq_ediv_of_nonneg ha
theorem tmod_nonneg {a b : Int} (ha : 0 ≤ a) (_hb : 0 ≤ b) : a.tmod b = a % b := Int.tmod_eq_emod_of_nonneg ha

end Go.Sx

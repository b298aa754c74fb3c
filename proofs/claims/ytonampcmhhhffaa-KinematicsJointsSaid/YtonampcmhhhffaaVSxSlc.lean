/- Slices that are read; told results in regions that draw. For any program. No condition. -/
import Derived.Test.YtonampcmhhhffaaVSxTold
namespace Go.Sx
open Go.RowKit

/-- a slice's rows, each of sz cells -/
def SlcIs (sz : Nat) (a : Option Addr) (rows : List (List Value)) (w : World) : Prop :=
  ∀ j r, rows[j]? = some r → r.length = sz ∧ ∃ b off, a = some ⟨b, off, none⟩ ∧ b < w.heap.size ∧ ∀ k, k < sz → w.cell? ⟨b, off + j * sz + k, none⟩ = r[k]?
theorem slc_dep (sz : Nat) (a : Option Addr) (rows : List (List Value)) : Depends (ownD a) (SlcIs sz a rows) := fun w w' h hS j r hj => by
  obtain ⟨h1, b, off, ha, hb, hc⟩ := hS j r hj
  have hw := h b ⟨_, ha, rfl⟩
  refine ⟨h1, b, off, ha, ?_, fun k hk => ?_⟩
  · have : w'.heap[b]? = some w.heap[b] := by rw [hw]; exact Array.getElem?_eq_getElem hb
    exact heap_lt this
  · rw [← hc k hk]
    exact World.cell?_of_block (w := w) hw
theorem slc_grow {sz : Nat} {a : Option Addr} {rows : List (List Value)} {w w' : World} (h : SlcIs sz a rows w) (g : Grow w w') : SlcIs sz a rows w' := fun j r hj => by
  obtain ⟨h1, b, off, ha, hb, hc⟩ := h j r hj
  exact ⟨h1, b, off, ha, Nat.lt_of_lt_of_le hb g.size, fun k hk => by rw [← hc k hk]; exact World.cell?_of_block (w := w) (g.block b hb)⟩
theorem holds_base {w0 : Base} {sz : Nat} {a : Option Addr} {rows : List (List Value)} (h : SlcIs sz a rows w0.w) : Holds w0 (SlcIs sz a rows) := fun _ _ k => slc_grow h k.grow
theorem holds_src {B : Base} {b i : Nat} {sl : Value} {L : List Int} {sz : Nat} {a : Option Addr} {rows : List (List Value)} (h : SlcIs sz a rows B.w) (hne : ∀ ad, a = some ad → ad.block ≠ b) : Holds (srcB B b sl L i) (SlcIs sz a rows) := by
  refine holds_base fun j r hj => ?_
  obtain ⟨h1, bb, off, ha, hb, hc⟩ := h j r hj
  refine ⟨h1, bb, off, ha, by show bb < (srcW B.w b sl L i).heap.size; rw [srcW_size]; exact hb, fun k hk => ?_⟩
  rw [← hc k hk]
  exact cell_setRow_other B.w b _ _ (show bb ≠ b from hne ⟨bb, off, none⟩ ha)
theorem flat_get {sz : Nat} : ∀ (rows : List (List Value)), (∀ r ∈ rows, r.length = sz) → ∀ j r, rows[j]? = some r → ∀ k, k < sz → rows.flatten[j * sz + k]? = r[k]?
  | [], _, j, r, hj, _, _ => by simp at hj
  | q :: rows, hs, 0, r, hj, k, hk => by
    simp at hj
    subst hj
    have := hs q List.mem_cons_self
    simp only [List.flatten_cons, Nat.zero_mul, Nat.zero_add]
    rw [List.getElem?_append_left (by omega)]
  | q :: rows, hs, j + 1, r, hj, k, hk => by
    simp only [List.getElem?_cons_succ] at hj
    have hq := hs q List.mem_cons_self
    have := flat_get rows (fun r hr => hs r (List.mem_cons_of_mem _ hr)) j r hj k hk
    simp only [List.flatten_cons]
    rw [List.getElem?_append_right (by rw [hq, Nat.add_mul]; omega), ← this]
    congr 1
    rw [hq, Nat.add_mul]
    omega
theorem flat_len {sz : Nat} : ∀ (rows : List (List Value)), (∀ r ∈ rows, r.length = sz) → rows.flatten.length = rows.length * sz
  | [], _ => by simp
  | q :: rows, hs => by
    have hq := hs q List.mem_cons_self
    have := flat_len rows fun r hr => hs r (List.mem_cons_of_mem _ hr)
    simp only [List.flatten_cons, List.length_append, List.length_cons, this, hq, Nat.add_mul]
    omega
theorem own_slc {m e sz cap : Nat} {a : Option Addr} {rows : List (List Value)} {w : World} (hs : ∀ r ∈ rows, r.length = sz) (h : OwnF m e sz a cap rows.length rows.flatten w) : SlcIs sz a rows w := fun j r hj => by
  have hlt := (List.getElem?_eq_some_iff.1 hj).1
  have hr := hs r (List.mem_of_getElem? hj)
  refine ⟨hr, ?_⟩
  rcases h.2 with ⟨h1, h2⟩ | ⟨gg, cp, cur, hv, hm, hg, hc1, hc2, hcs, htake⟩
  · omega
  · simp only [Value.slice.injEq] at hv
    refine ⟨gg, 0, hv.1, heap_lt hg, fun k hk => ?_⟩
    have hlt2 : j * sz + k < rows.length * sz := by
      have h1 := Nat.mul_le_mul_right sz (show j + 1 ≤ rows.length by omega)
      rw [Nat.add_mul] at h1
      omega
    rw [← flat_get rows hs j r hj k hk, ← htake, List.getElem?_take, if_pos hlt2]
    simp [World.cell?, hg]

/-- a pointer into a slice -/
def pAt (a : Option Addr) (k : Nat) : Value := match a with
  | some ad => .pointer (some ⟨ad.block, ad.off + k, none⟩)
  | none => undef
theorem pAt_some {b off : Nat} (k : Nat) : pAt (some ⟨b, off, none⟩) k = .pointer (some ⟨b, off + k, none⟩) := rfl

section
variable {P : Program} {n : Nat} {w0 : Base} {ops : Array Oper} {Q : Exit → Act → World → Prop} {S : Slots} {H : Heap}
variable {d : Option Tmp} {ty : TypeId} {pos : String} {af : Array Edge} {g : Option (Nat × Bool)}
variable {sz : Nat} {a : Option Addr} {rows : List (List Value)} {r : List Value}

theorem opV_indexS {t e len cap j : Nat} {x y : Operand} {kd : IntKind} {i : Int} (hS : Holds w0 (SlcIs sz a rows)) (hA : slcB P t e sz = true) (hx : ev S x = some (.slice a len cap)) (hy : ev S y = some (.int kd i)) (hi : i = (j : Int)) (hj : rows[j]? = some r) (hl : j < len) :
    OpV P w0 S H ⟨d, .indexAddr t x y, ty, pos, af, g⟩ (pAt a (j * sz)) :=
  opV_of (by simp [knownB, Op.operands, hx, hy]) rfl fun w k => by
    obtain ⟨_, b, off, rfl, _⟩ := hS H w k j r hj
    subst hi
    unfold slcB at hA
    cases hu : P.underlying t with
    | none => simp [hu] at hA
    | some ds =>
      cases ds <;> simp [hu] at hA
      rename_i e'
      obtain ⟨rfl, h2⟩ := hA
      cases hinf : P.info? e' with
      | none => simp [hinf] at h2
      | some inf =>
        simp [hinf] at h2
        subst h2
        simp [execOp, evD_of hx, evD_of hy, Instr.indexAt, asIntOf, run_underlying hu, hl, sizeOf, typeInfo, hinf, add_addr, pAt]
theorem opV_fieldS {s f off' j k : Nat} {x : Operand} (hS : Holds w0 (SlcIs sz a rows)) (hj : rows[j]? = some r) (hF : fieldB P s f off' = true) (hx : ev S x = some (pAt a k)) :
    OpV P w0 S H ⟨d, .fieldAddr s x f, ty, pos, af, g⟩ (pAt a (k + off')) :=
  ⟨by simp [knownB, Op.operands, hx], rfl, fun w kn => by
    obtain ⟨_, b, off, rfl, _⟩ := hS H w kn j r hj
    have := (opV_fieldAddr (P := P) (w0 := w0) (S := S) (H := H) (d := d) (ty := ty) (pos := pos) (af := af) (g := g) hF (x := x) (b := b) (off := off + k) hx).run w kn
    rw [Nat.add_assoc] at this
    exact this⟩
theorem opV_loadS1 {t : TypeId} {x : Operand} {v : Value} (j o : Nat) (hS : Holds w0 (SlcIs sz a rows)) (hj : rows[j]? = some r) (hT : tyB P t false 1 = true) (hx : ev S x = some (pAt a (j * sz + o))) (hv : r[o]? = some v) : OpV P w0 S H ⟨d, .load t x, ty, pos, af, g⟩ v :=
  opV_of (by simp [knownB, Op.operands, hx]) rfl fun w kn => by
    obtain ⟨hr, b, off, rfl, _, hc⟩ := hS H w kn j r hj
    have ho : o < sz := by rw [← hr]; exact (List.getElem?_eq_some_iff.1 hv).1
    have := hc o ho
    rw [hv, Nat.add_assoc] at this
    simp [execOp, evD_of hx, pAt, Instr.loadAt, Instr.sureAddr, loadVar, tyB_agg hT, this]
theorem opV_loadSA {t : TypeId} {x : Operand} {vs : List Value} {sz2 : Nat} (j o : Nat) (hS : Holds w0 (SlcIs sz a rows)) (hj : rows[j]? = some r) (hT : tyB P t true sz2 = true) (hx : ev S x = some (pAt a (j * sz + o))) (hv : sliceV r o sz2 = some vs) : OpV P w0 S H ⟨d, .load t x, ty, pos, af, g⟩ (.agg vs.toArray) :=
  opV_of (by simp [knownB, Op.operands, hx]) rfl fun w kn => by
    obtain ⟨hr, b, off, rfl, _, hc⟩ := hS H w kn j r hj
    obtain ⟨e, hl⟩ := sliceV_spec hv
    have hrun := run_load_agg (P := P) (w := w) (b := b) (off := off + (j * sz + o)) (k := sz2) (vs := vs) (fun i hi => by
      have := hc (o + i) (by omega)
      rw [show off + (j * sz + o) + i = off + j * sz + (o + i) by omega, this, e, List.getElem?_take, if_pos hi, List.getElem?_drop]) (by rw [e]; simp; omega)
    simp [execOp, evD_of hx, pAt, Instr.loadAt, Instr.sureAddr, loadVar, tyB_agg hT, tyB_size hT, hrun]

/-! ### told results in regions that draw -/
variable {X : Type} {Φ : X → Prop} {V : X → Value} {F : X → World → Prop}
/-- told of blocks that are none of the base's, of H or of an elder fact -/
def TellT (w0 : Base) (H : Heap) {X : Type} (Φ : X → Prop) (V : X → Value) (F : X → World → Prop) : Pred := fun u w =>
  ∃ x, Φ x ∧ u = V x ∧ ∃ D : Nat → Prop, Depends D (F x) ∧ (∀ k, D k → w0.w.heap.size ≤ k ∧ k < w.heap.size ∧ (∀ y ∈ H, y.2.1 ≠ k) ∧ ∀ y ∈ w0.R, ¬ y.2.1 k) ∧ F x w
theorem tell_of {w w' : World} {w1 : Base} {H0 : Heap} {x : X} (k : Knows w1 H0 w) (hx : Φ x) (g : Grow w w' ∨ True) (hs : w.heap.size ≤ w'.heap.size) (h : Told w.heap.size (F x) w') : TellT w1 H0 Φ V F (V x) w' := by
  obtain ⟨D, h1, h2, h3⟩ := h
  refine ⟨x, hx, rfl, D, h1, fun q hq => ⟨Nat.le_trans k.grow.size (h2 q hq).1, (h2 q hq).2, fun y hy e => ?_, fun y hy hd => ?_⟩, h3⟩
  · have := k.lt y hy
    have := (h2 q hq).1
    omega
  · have := ((k.facts y hy).at' q hd).2.1
    have := (h2 q hq).1
    omega
theorem stable_tell {w1 : Base} {H0 : Heap} : Stable (TellT w1 H0 Φ V F) := fun _ _ _ ⟨x, hx, hu, D, h1, h2, h3⟩ gr =>
  ⟨x, hx, hu, D, h1, fun k hk => ⟨(h2 k hk).1, Nat.lt_of_lt_of_le (h2 k hk).2.1 gr.size, (h2 k hk).2.2⟩, h1 _ _ (fun k hk => gr.block k (h2 k hk).2.1) h3⟩
theorem stableB_tell {σ : Type} {b : Nat → Prop} {w1 : Base} {H0 : Heap} {Wf : σ → Base} {Hf : σ → Heap} (fam : Fam b w1 H0 Wf Hf) : StableB b (TellT w1 H0 Φ V F) := fun _ _ _ ⟨x, hx, hu, D, h1, h2, h3⟩ gr =>
  ⟨x, hx, hu, D, h1, fun k hk => ⟨(h2 k hk).1, Nat.lt_of_lt_of_le (h2 k hk).2.1 gr.size, (h2 k hk).2.2⟩, h1 _ _ (fun k hk => gr.block k (h2 k hk).2.1 fun hb => by
    rcases fam.here k hb with h | h
    · have := (h2 k hk).1
      omega
    · obtain ⟨y, hy, he⟩ := List.mem_map.1 h
      exact (h2 k hk).2.2.1 y hy he) h3⟩
end
end Go.Sx

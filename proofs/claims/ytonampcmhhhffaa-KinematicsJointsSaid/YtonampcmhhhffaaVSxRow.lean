/- Slices built in place, calls over them: rules of the symbolic executor, for any program. No condition. -/
import Derived.Test.YtonampcmhhhffaaVDat
namespace Go.Sx
open Go.RowKit

def rowPl (len size : Nat) : List (Nat × Nat) := (List.range len).map fun i => (i * size, size)
def rowZ (zs : List Value) : Nat → List Value
  | 0 => []
  | k + 1 => zs ++ rowZ zs k

theorem rowZ_get {zs : List Value} (hz : 0 < zs.length) : ∀ (len i : Nat), i < len * zs.length → (rowZ zs len)[i]? = zs[i % zs.length]?
  | 0, i, h => by omega
  | k + 1, i, h => by
    simp only [rowZ, List.getElem?_append]
    split
    · rename_i hlt
      rw [Nat.mod_eq_of_lt hlt]
    · rename_i hge
      rw [Nat.add_mul] at h
      rw [rowZ_get hz k (i - zs.length) (by omega)]
      congr 1
      exact (Nat.mod_eq_sub_mod (by omega)).symm
theorem rowZ_length (zs : List Value) : ∀ len, (rowZ zs len).length = len * zs.length
  | 0 => by simp [rowZ]
  | k + 1 => by simp [rowZ, rowZ_length zs k, Nat.add_mul]; omega

section
variable {P : Program} {n : Nat} {w0 : Base} {ops : Array Oper} {Q : Exit → Act → World → Prop} {S : Slots} {H : Heap}

theorem zero_row (z : Value) (len : Nat) (hz : 0 < z.cells.size) : (Array.range (len * z.cells.size)).map (z.cells[· % z.cells.size]!) = (rowZ z.cells.toList len).toArray := by
  apply Array.ext
  · simp [rowZ_length]
  · intro i h1 h2
    have hlt : i < len * z.cells.toList.length := by simpa using h1
    have hg := rowZ_get (zs := z.cells.toList) (by simpa using hz) len i hlt
    have hm : i % z.cells.size < z.cells.size := Nat.mod_lt _ hz
    simp only [Array.getElem_map, Array.getElem_range, List.getElem_toArray]
    have hlt' : i < (rowZ z.cells.toList len).length := by rw [rowZ_length]; exact hlt
    rw [List.getElem?_eq_getElem hlt'] at hg
    have e1 : z.cells.toList[i % z.cells.toList.length]? = some z.cells[i % z.cells.size] := by
      simp [hm]
    rw [e1] at hg
    rw [Option.some.inj hg]
    simp [hm]

theorem run_bslice {t e size len : Nat} {z : Value} {parts : List (Nat × Value)} {cs : List Value} (hs : slcB P t e size = true) (hz : zeroIs P e z) (hzs : Nat.beq z.cells.size size = true) (h0 : Nat.blt 0 size = true) (hl : Nat.ble (len * size) 16777216 = true)
    (h1 : Nat.blt 0 len = true) (hf : fillV (rowPl len size) (rowZ z.cells.toList len) parts = some cs) (w : World) :
    (Instr.buildSlice t len parts.toArray).run P w = .ok (.slice (some ⟨w.heap.size, 0, none⟩) len len) (w.alloc (.cells cs.toArray e)) := by
  have hzs' := Nat.eq_of_beq_eq_true hzs
  subst hzs'
  have h0' : 0 < z.cells.size := by simpa using h0
  have h1' : 0 < len := by simpa using h1
  have hl' : len * z.cells.size ≤ 16777216 := Nat.le_of_ble_eq_true hl
  have hne : ¬ len * z.cells.size = 0 := by
    intro e
    rcases Nat.mul_eq_zero.1 e with h | h <;> omega
  unfold slcB at hs
  cases hu : P.underlying t with
  | none => simp [hu] at hs
  | some ds =>
    cases ds <;> simp [hu] at hs
    rename_i e'
    obtain ⟨rfl, h2⟩ := hs
    cases hi : P.info? e' with
    | none => simp [hi] at h2
    | some inf =>
      simp [hi] at h2
      have hfill := fill_of (place := fun i => some (i * z.cells.size, z.cells.size)) (pl := rowPl len z.cells.size) (fun i x hx => by
        simp only [rowPl, List.getElem?_map, Option.map_eq_some_iff] at hx
        obtain ⟨j, hj, rfl⟩ := hx
        have := (List.getElem?_eq_some_iff.1 hj)
        simp at this
        simp [this.2]) parts (rowZ z.cells.toList len) cs hf
      rw [← zero_row z len h0'] at hfill
      have hsz : (sizeOf e').run P w = .ok z.cells.size w := by simp [sizeOf, typeInfo, hi, h2]
      simp only [Instr.buildSlice, Sem.run_bind, run_underlying hu, Result.andThen_ok, hsz, Sem.run_ite]
      rw [if_neg (by omega)]
      simp only [Sem.run_pure, Result.andThen_ok, if_neg hne, run_zero hz, Sem.run_bind]
      simp [hfill, newRow, hne, run_zero hz]

def RowT (w0 : Base) (H : Heap) (cs : List Value) (e : TypeId) (len : Nat) : Pred := fun u w =>
  ∃ b, u = .slice (some ⟨b, 0, none⟩) len len ∧ w0.w.heap.size ≤ b ∧ ((∀ x ∈ H, x.2.1 ≠ b) ∧ ∀ x ∈ w0.R, ¬ x.2.1 b) ∧ w.heap[b]? = some (.cells cs.toArray e)
theorem stable_rowT {cs : List Value} {e : TypeId} {len : Nat} : Stable (RowT w0 H cs e len) := fun _ _ _ ⟨b, h1, h2, h3, h4⟩ g => ⟨b, h1, h2, h3, by rw [g.block b (heap_lt h4)]; exact h4⟩

variable {d : Nat} {ty : TypeId} {pos : String} {af : Array Edge} {g : Option (Nat × Bool)}

theorem opT_bslice {t e size len : Nat} {z : Value} {parts : List (Nat × Operand)} {vs : List (Nat × Value)} {cs : List Value} (hs : slcB P t e size = true) (hz : zeroIs P e z) (hzs : Nat.beq z.cells.size size = true) (h0 : Nat.blt 0 size = true)
    (hl : Nat.ble (len * size) 16777216 = true) (h1 : Nat.blt 0 len = true) (hp : evp S parts = some vs) (hf : fillV (rowPl len size) (rowZ z.cells.toList len) vs = some cs) :
    OpT P w0 S H ⟨some d, .buildSlice t len parts.toArray, ty, pos, af, g⟩ (RowT w0 H cs e len) := by
  obtain ⟨e1, hk⟩ := evp_spec hp
  refine ⟨?_, rfl, fun w k => ?_⟩
  · simp only [knownB, Op.operands]
    rw [Array.all_eq_true_iff_forall_mem]
    intro x hx
    simp at hx
    obtain ⟨i, hi⟩ := hx
    exact hk _ hi
  · have := run_bslice (P := P) hs hz hzs h0 hl h1 hf w
    have h2 : (parts.toArray.map fun (x : Nat × Operand) => (x.1, evD S x.2)) = vs.toArray := by rw [← e1]; simp
    simp only [execOp]
    rw [h2]
    simp only [Sem.run_bind, this, Result.andThen_ok, Sem.run_pure, Yields]
    refine ⟨(Grow.refl w).alloc _, w.heap.size, rfl, k.grow.size, ⟨fun x hx e => ?_, fun x hx hd => ?_⟩, ?_⟩
    · have := heap_lt (k.has x hx).2
      omega
    · have := ((k.facts x hx).at' _ hd).2.1
      omega
    · show (w.heap.push _)[w.heap.size]? = _
      simp

theorem doG_bslice {t e size len : Nat} {z : Value} {parts : List (Nat × Operand)} {vs : List (Nat × Value)} {cs : List Value} {K : Slots → Ghosts → Prop} {G : Ghosts} {l : List Oper} (hs : slcB P t e size = true) (hz : zeroIs P e z) (hzs : Nat.beq z.cells.size size = true) (h0 : Nat.blt 0 size = true)
    (hl : Nat.ble (len * size) 16777216 = true) (h1 : Nat.blt 0 len = true) (hp : evp S parts = some vs) (hf : fillV (rowPl len size) (rowZ z.cells.toList len) vs = some cs)
    (hw : wantedS ops S ⟨some d, .buildSlice t len parts.toArray, ty, pos, af, g⟩ = some true) (hn : Nat.blt d n = true) (hno : look S d = none)
    (next : DoG P n w0 ops H K l S ((d, false, RowT w0 H cs e len) :: G)) : DoG P n w0 ops H K (⟨some d, .buildSlice t len parts.toArray, ty, pos, af, g⟩ :: l) S G :=
  doG_t (opT_bslice hs hz hzs h0 hl h1 hp hf) stable_rowT hw rfl hn hno next

theorem doL_bslice {t e size len : Nat} {z : Value} {parts : List (Nat × Operand)} {vs : List (Nat × Value)} {cs : List Value} {l : List Oper} (id : Nat) (hs : slcB P t e size = true) (hz : zeroIs P e z) (hzs : Nat.beq z.cells.size size = true) (h0 : Nat.blt 0 size = true)
    (hl : Nat.ble (len * size) 16777216 = true) (h1 : Nat.blt 0 len = true) (hp : evp S parts = some vs) (hf : fillV (rowPl len size) (rowZ z.cells.toList len) vs = some cs)
    (hw : wantedS ops S ⟨some d, .buildSlice t len parts.toArray, ty, pos, af, g⟩ = some true) (hn : Nat.blt d n = true)
    (next : ∀ b, DoL P n w0 ops Q l ((d, .slice (some ⟨b, 0, none⟩) len len) :: S) ((id, b, cs, e) :: H)) : DoL P n w0 ops Q (⟨some d, .buildSlice t len parts.toArray, ty, pos, af, g⟩ :: l) S H :=
  doL_t (opT_bslice hs hz hzs h0 hl h1 hp hf) hw rfl hn fun v a w f k ⟨b, hv, hb, ⟨hno, hR⟩, hblk⟩ => by
    subst hv
    refine next b a w f ⟨k.grow, fun x hx => ?_, ?_, fun F hF => (k.facts F hF).heap fun x hx => ?_, k.apart⟩
    · rcases List.mem_cons.1 hx with rfl | hx
      · exact ⟨hb, hblk⟩
      · exact k.has x hx
    · rw [List.map_cons, List.nodup_cons]
      refine ⟨fun hm => ?_, k.nodup⟩
      obtain ⟨y, hy, he⟩ := List.mem_map.1 hm
      exact hno y hy he
    · rcases List.mem_cons.1 hx with rfl | hx
      · exact .inr (hR F hF)
      · exact .inl ⟨x, hx, rfl⟩

theorem call_yields {w : World} {f : FuncId} {dd : Option Tmp} {xs : List Operand} {ats : Array TypeId} {vs : List Value} {T : Pred} (he : Enters P f) (ha : evs S xs = some vs)
    (hc : Calls P f vs.toArray w (RetsT T w)) : Yields P w T ((execOp (evD S) ⟨dd, .call ⟨.value (.func f), xs.toArray, ats⟩, ty, pos, af, g⟩).run P w) := by
  obtain ⟨e, _⟩ := evs_spec ha
  have hrun : (execOp (evD S) ⟨dd, .call ⟨.value (.func f), xs.toArray, ats⟩, ty, pos, af, g⟩).run P w = .ok (.enter f vs.toArray) w := by
    have h2 : evD S (.func f) = .func (.func f) #[] #[] := rfl
    have h3 := he vs.toArray w
    simp [execOp, resolve, h2, Deferred.ofValue, invoke, e, h3]
  rw [hrun]
  exact ⟨Grow.refl _, hc.mono fun _ _ h => h⟩

theorem known_call {f : FuncId} {dd : Option Tmp} {xs : List Operand} {ats : Array TypeId} (hk : ∀ x ∈ xs, (ev S x).isSome = true) : knownB S ⟨dd, .call ⟨.value (.func f), xs.toArray, ats⟩, ty, pos, af, g⟩ = true := by
  simp only [knownB, Op.operands, Call.operands]
  rw [Array.all_eq_true_iff_forall_mem]
  intro x hx
  simp at hx
  rcases hx with rfl | hx
  · rfl
  · exact hk x hx

/-- a call over one slot that is told by a property; its result is known -/
theorem doG_callG {F : Int → Value} {x : Int} {f : FuncId} {xs : List Operand} {ats : Array TypeId} {T1 : Pred} {vsOf : Value → List Value} {K : Slots → Ghosts → Prop} {G : Ghosts} {l : List Oper} (t : Nat) (he : Enters P f) (hG : lookG G t = some T1)
    (ha : ∀ u, evs ((t, u) :: S) xs = some (vsOf u))
    (hc : ∀ u w, Knows w0 H w → T1 u w → Calls P f (vsOf u).toArray w (Rets (F x) w)) (hw : ∀ u, wantedS ops ((t, u) :: S) ⟨some d, .call ⟨.value (.func f), xs.toArray, ats⟩, ty, pos, af, g⟩ = some true)
    (hm : t ∈ Oper.looksAt ops ⟨some d, .call ⟨.value (.func f), xs.toArray, ats⟩, ty, pos, af, g⟩) (hn : Nat.blt d n = true) (next : ∀ r, r = x → DoG P n w0 ops H K l ((d, F r) :: S) G) :
    DoG P n w0 ops H K (⟨some d, .call ⟨.value (.func f), xs.toArray, ats⟩, ty, pos, af, g⟩ :: l) S G :=
  doG_g1 t hG rfl (fun u => known_call (evs_spec (ha u)).2) (fun u w k hT => call_yields he (ha u) ((hc u w k hT).mono fun _ _ h => ⟨F x, h.1, h.2, rfl⟩)) hw hm rfl hn (next x rfl)

end
end Go.Sx

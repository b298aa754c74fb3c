/- Part 4 of the texts behind the last one: rules and contracts. No condition. -/
import Derived.Test.YtonampcmhhhffaaGreatKM3
namespace Go.Sx
open Go.RowKit
section
variable {P : Program} {n : Nat} {w0 : Base} {ops : Array Oper} {Q : Exit → Act → World → Prop} {S : Slots} {H : Heap}
variable {d : Nat} {ty : TypeId} {pos : String} {af : Array Edge} {g : Option (Nat × Bool)} {rest : List Oper}
theorem Knows.swap {w w' : World} {R' : Facts} {id : Nat} {D D' : Nat → Prop} {F F' : World → Prop} (hk : Knows w0 H w) (hR : lookR w0.R id = some (D, F)) (hg : GrowB D w w') (hD : ∀ q, D' q → D q)
    (hd : Depends D' F') (hF : F' w') (hu : updR w0.R id D' F' = some R') : Knows ⟨w0.w, R'⟩ H w' := by
  obtain ⟨R1, R2, kk, x, e1, e2, e3⟩ := updR_spec hu
  rw [hR] at e3
  cases e3
  have hmem : (kk, D, F) ∈ w0.R := by rw [e1]; simp
  have hfa := hk.facts _ hmem
  have hap := hk.apart
  rw [e1] at hap
  have hap1 := List.pairwise_append.1 hap
  have hap2 := List.pairwise_cons.1 hap1.2.1
  have other : ∀ y ∈ w0.R, (∀ q, y.2.1 q → ¬ D q) → RFact w0.w.heap.size H y.2.1 y.2.2 w' := fun y hy hn => by
    have hy2 := hk.facts y hy
    exact ⟨hy2.dep, fun q hq => ⟨(hy2.at' q hq).1, Nat.lt_of_lt_of_le (hy2.at' q hq).2.1 hg.size, (hy2.at' q hq).2.2⟩, hy2.dep w w' (fun q hq => hg.block q (hy2.at' q hq).2.1 (hn q hq)) hy2.holds⟩
  refine ⟨⟨hg.os.trans hk.grow.os, hg.tape.trans hk.grow.tape, hg.output.trans hk.grow.output, Nat.le_trans hk.grow.size hg.size, fun q hq => ?_⟩, fun y hy => ?_, hk.nodup, fun y hy => ?_, ?_⟩
  · rw [hg.block q (Nat.lt_of_lt_of_le hq hk.grow.size) fun h => absurd (hfa.at' q h).1 (Nat.not_le_of_lt hq)]
    exact hk.grow.block q hq
  · have h1 := hk.has y hy
    exact ⟨h1.1, by rw [hg.block _ (heap_lt h1.2) fun h => (hfa.at' _ h).2.2 y hy rfl]; exact h1.2⟩
  · have hy' : y ∈ R1 ++ (kk, D', F') :: R2 := by rw [← e2]; exact hy
    rcases List.mem_append.1 hy' with h | h
    · exact other y (by rw [e1]; exact List.mem_append_left _ h) fun q hq => hap1.2.2 y h _ List.mem_cons_self q hq
    · rcases List.mem_cons.1 h with rfl | h
      · exact ⟨hd, fun q hq => ⟨(hfa.at' q (hD q hq)).1, Nat.lt_of_lt_of_le (hfa.at' q (hD q hq)).2.1 hg.size, (hfa.at' q (hD q hq)).2.2⟩, hF⟩
      · exact other y (by rw [e1]; exact List.mem_append_right _ (List.mem_cons_of_mem _ h)) fun q hq hD2 => hap2.1 y h q hD2 hq
  · show R'.Pairwise _
    rw [e2]
    refine List.pairwise_append.2 ⟨hap1.1, List.pairwise_cons.2 ⟨fun y hy q hq => hap2.1 y hy q (hD q hq), hap2.2⟩, fun y hy z hz q hq => ?_⟩
    rcases List.mem_cons.1 hz with rfl | hz
    · exact fun h => hap1.2.2 y hy _ List.mem_cons_self q hq (hD q h)
    · exact hap1.2.2 y hy z (List.mem_cons_of_mem _ hz) q hq
def IterF (b : Nat) (s : ByteArray) (p : Nat) : World → Prop := fun w => w.heap[b]? = some (.stringIter s p)
theorem iter_dep (b : Nat) (s : ByteArray) (p : Nat) : Depends (· = b) (IterF b s p) := fun w w' h hF => by
  unfold IterF at *
  rw [h b rfl]; exact hF
theorem run_newObj (w : World) (o : Obj) : (newObj o).run P w = .ok w.heap.size (w.alloc o) := rfl
theorem run_getIter {w : World} {b p : Nat} {s : ByteArray} (h : w.heap[b]? = some (.stringIter s p)) : (getObj b).run P w = .ok (.stringIter s p) w := by
  unfold getObj
  simp [Sem.run, h]
theorem run_setIter {w : World} {b p : Nat} {s : ByteArray} (o : Obj) (h : w.heap[b]? = some (.stringIter s p)) : (setObj b o).run P w = .ok () { w with heap := w.heap.setIfInBounds b o } := by
  unfold setObj
  simp [Sem.run, h]
theorem doL_range {t : TypeId} {x : Operand} {s : ByteArray} (id : Nat) (hu : P.underlying t = some .string) (hx : ev S x = some (.string s))
    (hw : wantedS ops S ⟨some d, .range t x, ty, pos, af, g⟩ = some true) (hn : Nat.blt d n = true)
    (next : ∀ b, DoL P n ⟨w0.w, (id, (· = b), IterF b s 0) :: w0.R⟩ ops Q rest ((d, .pointer (some ⟨b, 0, none⟩)) :: S) H) : DoL P n w0 ops Q (⟨some d, .range t x, ty, pos, af, g⟩ :: rest) S H := by
  intro a w fi k
  unfold wpList
  rw [wanted_fits fi hw, if_pos rfl]
  refine .inl ?_
  unfold Oper.wp
  have hrun : (execOp (evD S) ⟨some d, .range t x, ty, pos, af, g⟩).run P w = .ok (.value (.pointer (some ⟨w.heap.size, 0, none⟩))) (w.alloc (.stringIter s 0)) := by
    simp [execOp, evD_of hx, Instr.range, run_underlying hu, run_newObj]
  rw [exec_fits fi (by simp [knownB, Op.operands, hx]) rfl, hrun]
  simp only [Oper.upon]
  exact next w.heap.size _ _ (fi.put hn _) (k.tell ((Grow.refl w).alloc _) id (iter_dep _ _ _) (fun q hq => by subst hq; exact ⟨Nat.le_refl _, by show w.heap.size < (w.heap.push _).size; simp⟩) (by show (w.heap.push _)[w.heap.size]? = _; simp))
theorem setObj_growB {w : World} {b : Nat} {o : Obj} : GrowB (· = b) w { w with heap := w.heap.setIfInBounds b o } :=
  ⟨rfl, rfl, rfl, by simp, fun k _ hk => by simp [Array.getElem?_setIfInBounds_ne (Ne.symm hk)]⟩
theorem doL_nextS {x : Operand} {s : ByteArray} {b p : Nat} {c wd : Nat} (id : Nat) (hR : lookR w0.R id = some ((· = b), IterF b s p)) (hx : ev S x = some (.pointer (some ⟨b, 0, none⟩))) (hp : p < s.size) (hc : Utf8.decode s p = (c, wd))
    (hw : wantedS ops S ⟨some d, .next x true, ty, pos, af, g⟩ = some true) (hn : Nat.blt d n = true)
    (next : ∀ R', updR w0.R id (· = b) (IterF b s (p + wd)) = some R' → DoL P n ⟨w0.w, R'⟩ ops Q rest ((d, .tuple #[.bool true, .int .i64 (p : Int), .int .i32 c]) :: S) H) (hu : (updR w0.R id (· = b) (IterF b s (p + wd))).isSome = true) :
    DoL P n w0 ops Q (⟨some d, .next x true, ty, pos, af, g⟩ :: rest) S H := by
  intro a w fi k
  unfold wpList
  rw [wanted_fits fi hw, if_pos rfl]
  refine .inl ?_
  unfold Oper.wp
  obtain ⟨R', hR'⟩ := Option.isSome_iff_exists.1 hu
  have hF : w.heap[b]? = some (.stringIter s p) := holds_r hR _ _ k
  have hrun : (execOp (evD S) ⟨some d, .next x true, ty, pos, af, g⟩).run P w = .ok (.value (.tuple #[.bool true, .int .i64 (p : Int), .int .i32 c])) { w with heap := w.heap.setIfInBounds b (.stringIter s (p + wd)) } := by
    simp [execOp, evD_of hx, Instr.next, run_getIter hF, run_setIter _ hF, hp, hc, goInt]
  rw [exec_fits fi (by simp [knownB, Op.operands, hx]) rfl, hrun]
  simp only [Oper.upon]
  refine next R' hR' _ _ (fi.put hn _) (k.swap hR setObj_growB (fun _ h => h) (iter_dep _ _ _) ?_ hR')
  simp [IterF, heap_lt hF]
theorem opV_nextE {x : Operand} {s : ByteArray} {b p : Nat} {dd : Option Tmp} (id : Nat) (hR : lookR w0.R id = some ((· = b), IterF b s p)) (hx : ev S x = some (.pointer (some ⟨b, 0, none⟩))) (hp : ¬ p < s.size) :
    OpV P w0 S H ⟨dd, .next x true, ty, pos, af, g⟩ (.tuple #[.bool false]) :=
  opV_of (by simp [knownB, Op.operands, hx]) rfl fun w k => by
    have hF : w.heap[b]? = some (.stringIter s p) := holds_r hR _ _ k
    simp [execOp, evD_of hx, Instr.next, run_getIter hF, hp]
end
end Go.Sx
namespace Go.Sx
open Go.RowKit
theorem rows_len {sz : Nat} : ∀ (rows : List (List Value)), (∀ r ∈ rows, r.length = sz) → rows.flatten.length = rows.length * sz
  | [], _ => by simp
  | r :: rows, h => by
    rw [List.flatten_cons, List.length_append, h r List.mem_cons_self, rows_len rows fun x hx => h x (List.mem_cons_of_mem _ hx), List.length_cons, Nat.add_mul]
    omega
theorem rows_set {sz : Nat} : ∀ (rows : List (List Value)) (j : Nat) (vs : List Value), (∀ r ∈ rows, r.length = sz) → j < rows.length → vs.length = sz →
    (rows.set j vs).flatten = rows.flatten.take (j * sz) ++ vs ++ rows.flatten.drop (j * sz + sz)
  | [], j, vs, _, hj, _ => by simp at hj
  | r :: rows, 0, vs, h, _, hv => by
    have hr := h r List.mem_cons_self
    simp only [List.set_cons_zero, List.flatten_cons, Nat.zero_mul, List.take_zero, List.nil_append, Nat.zero_add]
    rw [← hr, List.drop_left]
  | r :: rows, j + 1, vs, h, hj, hv => by
    have hr := h r List.mem_cons_self
    have ih := rows_set rows j vs (fun x hx => h x (List.mem_cons_of_mem _ hx)) (by simpa using hj) hv
    simp only [List.set_cons_succ, List.flatten_cons]
    rw [ih, show (j + 1) * sz = r.length + j * sz by rw [Nat.add_mul, hr]; omega, List.take_length_add_append, Nat.add_assoc, List.drop_length_add_append]
    simp
def RowsF (b sz e : Nat) (rows : List (List Value)) : World → Prop := fun w => (∀ r ∈ rows, r.length = sz) ∧ w.heap[b]? = some (.cells rows.flatten.toArray e)
theorem rowsF_dep (b sz e : Nat) (rows : List (List Value)) : Depends (· = b) (RowsF b sz e rows) := fun w w' h hF => by
  unfold RowsF at *
  rw [h b rfl]; exact hF
theorem rowsF_slc {b sz e : Nat} {rows : List (List Value)} (w : World) (h : RowsF b sz e rows w) : SlcIs sz (some ⟨b, 0, none⟩) rows w := fun j r hj =>
  ⟨h.1 r (List.mem_of_getElem? hj), b, 0, rfl, heap_lt h.2, fun k hk => by
    rw [cell_at h.2, Nat.zero_add]
    exact flat_get rows h.1 j r hj k hk⟩
section
variable {P : Program} {n : Nat} {w0 : Base} {ops : Array Oper} {Q : Exit → Act → World → Prop} {S : Slots} {H : Heap}
variable {ty : TypeId} {pos : String} {af : Array Edge} {g : Option (Nat × Bool)} {rest : List Oper}
theorem doL_storeRow {t : TypeId} {x y : Operand} {b e sz j : Nat} {rows : List (List Value)} {vs : List Value} (id : Nat) (hT : tyB P t true sz = true) (hR : lookR w0.R id = some ((· = b), RowsF b sz e rows))
    (hx : ev S x = some (pAt (some ⟨b, 0, none⟩) (j * sz))) (hy : ev S y = some (.agg vs.toArray)) (hj : j < rows.length) (hv : Nat.beq vs.length sz = true) (h1 : vs.all Value.oneCell' = true)
    (hw : wantedS ops S ⟨none, .store t x y, ty, pos, af, g⟩ = some true) (hu : (updR w0.R id (· = b) (RowsF b sz e (rows.set j vs))).isSome = true)
    (next : ∀ R', updR w0.R id (· = b) (RowsF b sz e (rows.set j vs)) = some R' → DoL P n ⟨w0.w, R'⟩ ops Q rest S H) :
    DoL P n w0 ops Q (⟨none, .store t x y, ty, pos, af, g⟩ :: rest) S H := by
  intro a w f k
  unfold wpList
  rw [wanted_fits f hw, if_pos rfl]
  refine .inl ?_
  obtain ⟨R', hR'⟩ := Option.isSome_iff_exists.1 hu
  have hF : RowsF b sz e rows w := holds_r hR _ _ k
  have hvs := Nat.eq_of_beq_eq_true hv
  have hlen : j * sz + sz ≤ rows.flatten.length := by
    rw [rows_len rows hF.1]
    have := Nat.mul_le_mul_right sz (show j + 1 ≤ rows.length from hj)
    rw [Nat.add_mul] at this
    omega
  have hst := run_storeCells_at P b (0 + j * sz) e vs 0 rows.flatten.toArray w hF.2 (by simp; simp at hlen; omega) (fun u hu => List.all_eq_true.1 h1 u hu)
  have hx' : ev S x = some (.pointer (some ⟨b, 0 + j * sz, none⟩)) := hx
  have hrun : (execOp a.eval ⟨none, .store t x y, ty, pos, af, g⟩).run P w = .ok .skip (w.setRow b (rows.set j vs).flatten.toArray) := by
    rw [rows_set rows j vs hF.1 hj hvs]
    simp only [Nat.add_zero, Nat.zero_add, hvs] at hst
    have hx2 : ev S x = some (.pointer (some ⟨b, j * sz, none⟩)) := by rw [hx', Nat.zero_add]
    have hc : (Value.agg vs.toArray).cells = vs.toArray := rfl
    simp [execOp, f.ev hx2, f.ev hy, Instr.storeAt, Instr.sureAddr, storeVar, tyB_size hT, hc, hvs, hst]
  unfold Oper.wp
  rw [hrun]
  refine next R' hR' _ _ f (k.swap hR (GrowB.set b w _) (fun _ h => h) (rowsF_dep _ _ _ _) ⟨fun r hr => ?_, setRow_heap w b _ _ e _ hF.2⟩ hR')
  rcases List.mem_or_eq_of_mem_set hr with h | h
  · exact hF.1 r h
  · rw [h]; exact hvs
end
end Go.Sx
namespace Go.Sx
open Go.RowKit
theorem made_rows {zs : List Value} {sz m : Nat} (hz : zs.length = sz) (h0 : 0 < sz) : madeCells zs.toArray (m * sz) = (List.replicate m zs).flatten.toArray := by
  have hall : ∀ r ∈ List.replicate m zs, r.length = sz := fun r hr => by rw [List.eq_of_mem_replicate hr, hz]
  have hlen := rows_len (sz := sz) (List.replicate m zs) hall
  rw [List.length_replicate] at hlen
  apply Array.ext
  · rw [size_madeCells]; simp only [List.size_toArray]; exact hlen.symm
  · intro k h1 h2
    rw [size_madeCells] at h1
    have hd : k / sz < m := (Nat.div_lt_iff_lt_mul h0).2 h1
    have hm := Nat.mod_lt k h0
    have hg := flat_get (sz := sz) (List.replicate m zs) hall (k / sz) zs (by simp [hd]) (k % sz) hm
    rw [show k / sz * sz + k % sz = k by rw [Nat.mul_comm]; exact Nat.div_add_mod k sz] at hg
    have e1 : (madeCells zs.toArray (m * sz))[k]? = zs[k % sz]? := by
      simp only [madeCells, Array.getElem?_map, List.size_toArray, hz]
      rw [Array.getElem?_range, if_pos h1]
      simp [hz, hm]
    have e2 : (List.replicate m zs).flatten.toArray[k]? = zs[k % sz]? := by rw [List.getElem?_toArray]; exact hg
    have := e1.trans e2.symm
    rw [Array.getElem?_eq_getElem (by rw [size_madeCells]; exact h1), Array.getElem?_eq_getElem h2] at this
    exact Option.some.inj this
def makeB (P : Program) (t e sz bytes : Nat) (zs : List Value) : Prop := P.underlying t = some (.slice e) ∧ ∃ i z, P.info? e = some i ∧ i.zero = some z ∧ i.size = sz ∧ i.bytes = bytes ∧ z.cells.toList = zs ∧ zs.length = sz ∧ 0 < sz
section
variable {P : Program} {n : Nat} {w0 : Base} {ops : Array Oper} {Q : Exit → Act → World → Prop} {S : Slots} {H : Heap}
variable {d : Nat} {ty : TypeId} {pos : String} {af : Array Edge} {g : Option (Nat × Bool)} {rest : List Oper}
theorem makeB_of {t e sz bytes : Nat} {z : Value} (hA : appB P t e sz bytes = true) (hz : zeroIs P e z) : makeB P t e sz bytes z.cells.toList := by
  unfold appB at hA
  unfold zeroIs at hz
  cases hu : P.underlying t with
  | none => simp [hu] at hA
  | some ds =>
    cases ds <;> simp [hu] at hA
    rename_i e'
    cases hi : P.info? e with
    | none => simp [hi] at hA
    | some i =>
      simp only [hi] at hA hz
      simp at hz
      simp only [hz, Bool.and_eq_true, beq_iff_eq] at hA
      obtain ⟨⟨⟨⟨rfl, h2⟩, h3⟩, h4⟩, h5⟩ := hA
      exact ⟨hu, i, z, hi, hz, h2, h3, rfl, by simpa using h5, by simpa using h4⟩
theorem doL_make {t e sz bytes m : Nat} {zs : List Value} {x : Operand} (id : Nat) (hB : makeB P t e sz bytes zs) (hx : ev S x = some (.int .i64 (m : Int))) (hm : m * bytes ≤ 281474976710656) (h63 : m ≤ 1000000)
    (hw : wantedS ops S ⟨some d, .makeSlice t x x, ty, pos, af, g⟩ = some true) (hn : Nat.blt d n = true)
    (next : ∀ b, DoL P n ⟨w0.w, (id, (· = b), RowsF b sz e (List.replicate m zs)) :: w0.R⟩ ops Q rest ((d, .slice (some ⟨b, 0, none⟩) m m) :: S) H) : DoL P n w0 ops Q (⟨some d, .makeSlice t x x, ty, pos, af, g⟩ :: rest) S H := by
  intro a w fi k
  unfold wpList
  rw [wanted_fits fi hw, if_pos rfl]
  refine .inl ?_
  unfold Oper.wp
  obtain ⟨ht, i, z, hi, hz, rfl, rfl, rfl, hlen, h0⟩ := hB
  have hrun : (execOp (evD S) ⟨some d, .makeSlice t x x, ty, pos, af, g⟩).run P w = .ok (.value (.slice (some ⟨w.heap.size, 0, none⟩) m m)) (w.alloc (.cells (List.replicate m z.cells.toList).flatten.toArray e)) := by
    have := run_make (P := P) w t e i z ht hi hz .i64 .i64 (m : Int) (m : Int) (by omega) (by omega) (by rw [Int.mul_comm, ← Int.natCast_mul]; exact Int.ofNat_le.2 hm) (by omega)
    simp only [Int.toNat_natCast] at this
    rw [show z.cells = z.cells.toList.toArray from rfl, made_rows hlen h0] at this
    simp [execOp, evD_of hx, this]
  rw [exec_fits fi (by simp [knownB, Op.operands, hx]) rfl, hrun]
  simp only [Oper.upon]
  refine next w.heap.size _ _ (fi.put hn _) (k.tell ((Grow.refl w).alloc _) id (rowsF_dep _ _ _ _) (fun q hq => by subst hq; exact ⟨Nat.le_refl _, by show w.heap.size < (w.heap.push _).size; simp⟩) ⟨fun r hr => ?_, by show (w.heap.push _)[w.heap.size]? = _; simp⟩)
  rw [List.eq_of_mem_replicate hr]; exact hlen
end
end Go.Sx
namespace Go.Sx
def pc (p : Po) : List Value := [.int .i64 p.r.x.x.lo, .int .i64 p.r.x.x.hi, .int .i64 p.r.x.y.lo, .int .i64 p.r.x.y.hi, .int .i64 p.r.x.z.lo, .int .i64 p.r.x.z.hi, .int .i64 p.r.y.x.lo, .int .i64 p.r.y.x.hi, .int .i64 p.r.y.y.lo, .int .i64 p.r.y.y.hi, .int .i64 p.r.y.z.lo, .int .i64 p.r.y.z.hi, .int .i64 p.r.z.x.lo, .int .i64 p.r.z.x.hi, .int .i64 p.r.z.y.lo, .int .i64 p.r.z.y.hi, .int .i64 p.r.z.z.lo, .int .i64 p.r.z.z.hi, .int .i64 p.t.x.lo, .int .i64 p.t.x.hi, .int .i64 p.t.y.lo, .int .i64 p.t.y.hi, .int .i64 p.t.z.lo, .int .i64 p.t.z.hi]
def zRow : List Value := List.replicate 24 (.int .i64 0)
def lkP (ps : List Po) (j : J) (a : Iv) : Po := if j.parent = -1 then jPose j.kind j.off a else Po.mul (ps.getD j.parent.toNat Po.rest) (jPose j.kind j.off a)
def lks (js : List J) (bx : List Iv) : Nat → List Po
  | 0 => []
  | k + 1 => match js[k]?, bx[k]? with
    | some j, some a => lks js bx k ++ [lkP (lks js bx k) j a]
    | _, _ => lks js bx k
theorem lks_succ {js : List J} {bx : List Iv} {k : Nat} {j : J} {a : Iv} (h1 : js[k]? = some j) (h2 : bx[k]? = some a) : lks js bx (k + 1) = lks js bx k ++ [lkP (lks js bx k) j a] := by
  simp only [lks, h1, h2]
def lkR (ps : List Po) (m : Nat) : List (List Value) := ps.map pc ++ List.replicate m zRow
theorem lkR_set {ps : List Po} {m : Nat} (v : List Value) : (lkR ps (m + 1)).set ps.length v = ps.map pc ++ v :: List.replicate m zRow := by
  unfold lkR
  rw [List.set_append_right _ _ (by simp)]
  simp [List.replicate_succ]
theorem lkR_set2 {ps : List Po} {m : Nat} (u v : List Value) : (ps.map pc ++ u :: List.replicate m zRow).set ps.length v = ps.map pc ++ v :: List.replicate m zRow := by
  rw [List.set_append_right _ _ (by simp)]
  simp
theorem lkR_done {ps : List Po} {m : Nat} (p : Po) : ps.map pc ++ pc p :: List.replicate m zRow = lkR (ps ++ [p]) m := by
  unfold lkR
  simp
theorem lkR_at {ps : List Po} {m i : Nat} {u : List Value} (h : i < ps.length) : (ps.map pc ++ u :: List.replicate m zRow)[i]? = some (pc (ps.getD i Po.rest)) := by
  rw [List.getElem?_append_left (by simpa using h), List.getElem?_map]
  simp [List.getD_eq_getElem?_getD, h]
theorem lkR_me {ps : List Po} {m : Nat} {u : List Value} : (ps.map pc ++ u :: List.replicate m zRow)[ps.length]? = some u := by
  rw [List.getElem?_append_right (by simp)]
  simp
end Go.Sx
namespace Go.Sx
open Go.RowKit
section
variable {P : Program} {n : Nat} {w0 : Base} {ops : Array Oper} {Q : Exit → Act → World → Prop} {S : Slots} {H : Heap}
variable {d : Nat} {ty : TypeId} {pos : String} {af : Array Edge} {g : Option (Nat × Bool)} {rest : List Oper}
variable {X Y : Type} {Φ : X → Prop} {V : X → Value} {F : X → World → Prop} {Φ2 : Y → Prop} {V2 : Y → Value} {F2 : Y → World → Prop} {G : Ghosts} {tl : List Oper} {Fw : World → Prop}
theorem tail_tell2 {w1 : Base} {H0 : Heap} {d2 : Nat} (id : Nat) (hsz : w1.w.heap.size = w0.w.heap.size) (hR : w1.R = w0.R) (hA : H0.map (·.2.1) = H.map (·.2.1))
    (h : ∀ x y D, Φ x → Φ2 y → Tail P n ⟨w0.w, (id, D, fun w => F x w ∧ F2 y w) :: w0.R⟩ ops Q tl Fw ((d, V x) :: (d2, V2 y) :: S) H []) :
    Tail P n w0 ops Q tl Fw S H ((d, false, TellT w1 H0 Φ V F) :: (d2, false, TellT w1 H0 Φ2 V2 F2) :: G) := fun a w f k hx _ _ hF => by
  obtain ⟨u, hu, x, hxx, hux, D, q1, q2, q3⟩ := hx _ List.mem_cons_self
  obtain ⟨u2, hu2, y, hyy, huy, D2, p1, p2, p3⟩ := hx _ (List.mem_cons_of_mem _ List.mem_cons_self)
  subst hux
  subst huy
  have cv : ∀ q, (w1.w.heap.size ≤ q ∧ q < w.heap.size ∧ (∀ y ∈ H0, y.2.1 ≠ q) ∧ ∀ y ∈ w1.R, ¬ y.2.1 q) → (w0.w.heap.size ≤ q ∧ q < w.heap.size ∧ (∀ y ∈ H, y.2.1 ≠ q) ∧ ∀ y ∈ w0.R, ¬ y.2.1 q) := fun q hq => ⟨by rw [← hsz]; exact hq.1, hq.2.1, fun y hy e => by
    have hm : y.2.1 ∈ H.map (·.2.1) := List.mem_map.2 ⟨y, hy, rfl⟩
    rw [← hA] at hm
    obtain ⟨z, hz, hze⟩ := List.mem_map.1 hm
    exact hq.2.2.1 z hz (hze.trans e), fun y hy hd => hq.2.2.2 y (by rw [hR]; exact hy) hd⟩
  exact h x y (fun q => D q ∨ D2 q) hxx hyy a w (fits_more (fits_more f hu2) hu) (knows_told k id (fun w w' hq ⟨a, c⟩ => ⟨q1 w w' (fun q hd => hq q (.inl hd)) a, p1 w w' (fun q hd => hq q (.inr hd)) c⟩) (fun q hq => hq.elim (fun h => cv q (q2 q h)) (fun h => cv q (p2 q h))) ⟨q3, p3⟩) (fun y hy => by cases hy) (fun y hy => by cases hy) (fun y hy => by cases hy) hF
end
end Go.Sx
namespace Go.Sx
theorem clampM (x : Int) : -2147483648 ≤ clampI x ∧ clampI x ≤ 2147483648 := by
  unfold clampI; omega
theorem lks_len {js : List J} {bx : List Iv} : ∀ n, n ≤ js.length → n ≤ bx.length → (lks js bx n).length = n
  | 0, _, _ => rfl
  | n + 1, h1, h2 => by
    have e1 : js[n]? = some js[n] := List.getElem?_eq_getElem (by omega)
    have e2 : bx[n]? = some bx[n] := List.getElem?_eq_getElem (by omega)
    rw [lks_succ e1 e2, List.length_append, lks_len n (by omega) (by omega)]
    rfl
end Go.Sx
namespace Go.Sx
structure R3 where
  x : Int
  y : Int
  z : Int
structure RM where
  x : R3
  y : R3
  z : R3
def R3.dot (a b : R3) : Int := a.x * b.x + a.y * b.y + a.z * b.z
def RM.tr (m : RM) : RM := ⟨⟨m.x.x, m.y.x, m.z.x⟩, ⟨m.x.y, m.y.y, m.z.y⟩, ⟨m.x.z, m.y.z, m.z.z⟩⟩
def RM.app (m : RM) (v : R3) : R3 := ⟨R3.dot m.x v, R3.dot m.y v, R3.dot m.z v⟩
def RM.mul (a b : RM) : RM := ⟨b.tr.app a.x, b.tr.app a.y, b.tr.app a.z⟩
structure VIn (v : V3) (m : Int) (r : R3) : Prop where
  x : In v.x m r.x
  y : In v.y m r.y
  z : In v.z m r.z
structure MIn (v : M3) (m : Int) (r : RM) : Prop where
  x : VIn v.x m r.x
  y : VIn v.y m r.y
  z : VIn v.z m r.z
structure VOk (v : V3) : Prop where
  x : Ok v.x
  y : Ok v.y
  z : Ok v.z
structure MOk (v : M3) : Prop where
  x : VOk v.x
  y : VOk v.y
  z : VOk v.z
structure RB (B : Int) (r : R3) : Prop where
  x : -B ≤ r.x ∧ r.x ≤ B
  y : -B ≤ r.y ∧ r.y ≤ B
  z : -B ≤ r.z ∧ r.z ≤ B
structure RMB (B : Int) (r : RM) : Prop where
  x : RB B r.x
  y : RB B r.y
  z : RB B r.z
theorem MIn.tr {v : M3} {m : Int} {r : RM} (h : MIn v m r) : MIn v.tr m r.tr := ⟨⟨h.x.x, h.y.x, h.z.x⟩, ⟨h.x.y, h.y.y, h.z.y⟩, ⟨h.x.z, h.y.z, h.z.z⟩⟩
theorem MOk.tr {v : M3} (h : MOk v) : MOk v.tr := ⟨⟨h.x.x, h.y.x, h.z.x⟩, ⟨h.x.y, h.y.y, h.z.y⟩, ⟨h.x.z, h.y.z, h.z.z⟩⟩
theorem RMB.tr {B : Int} {v : RM} (h : RMB B v) : RMB B v.tr := ⟨⟨h.x.x, h.y.x, h.z.x⟩, ⟨h.x.y, h.y.y, h.z.y⟩, ⟨h.x.z, h.y.z, h.z.z⟩⟩
theorem lim_Ok {a : Iv} (h : Ok a) : Ok (limV a) := by
  unfold Ok limV limI at *; simp only; omega
theorem sinOver_b {a : Iv} (v : Ok a) : -65536 ≤ (sinOverI a).lo ∧ (sinOverI a).lo ≤ (sinOverI a).hi ∧ (sinOverI a).hi ≤ 65536 := by rw [sinOver_ov]; exact ov_bnd v
theorem cosOver_b {a : Iv} (v : Ok a) : -65536 ≤ (cosOverI a).lo ∧ (cosOverI a).lo ≤ (cosOverI a).hi ∧ (cosOverI a).hi ≤ 65536 := by rw [cosOver_ov]; exact ov_bnd v
theorem neg_Ok {a : Iv} (v : Ok a) : Ok (Iv.neg a) := by rw [neg_of v]; unfold Ok at *; simp only; omega
theorem one_Ok : Ok iv1 := by unfold Ok; decide
theorem zero_Ok : Ok iv0 := by unfold Ok; decide
theorem turn_at {axis : Int} {a : Iv} (v : Ok a) (h : axis = 0 ∨ axis = 1 ∨ axis = 2) : M3.turn axis a = if axis = 0 then ⟨⟨iv1, iv0, iv0⟩, ⟨iv0, cosOverI a, Iv.neg (sinOverI a)⟩, ⟨iv0, sinOverI a, cosOverI a⟩⟩ else if axis = 1 then ⟨⟨cosOverI a, iv0, sinOverI a⟩, ⟨iv0, iv1, iv0⟩, ⟨Iv.neg (sinOverI a), iv0, cosOverI a⟩⟩ else ⟨⟨cosOverI a, Iv.neg (sinOverI a), iv0⟩, ⟨sinOverI a, cosOverI a, iv0⟩, ⟨iv0, iv0, iv1⟩⟩ := by
  unfold M3.turn
  rw [valid_of v]
  rcases h with h | h | h <;> subst h <;> rfl
end Go.Sx
namespace Go.Sx
structure VNear (a b : R3) : Prop where
  x : -((1099511627776 : Int) * (340282366920938463463374607431768211456 : Int)) ≤ a.x - (340282366920938463463374607431768211456 : Int) * b.x ∧ a.x - (340282366920938463463374607431768211456 : Int) * b.x ≤ (1099511627776 : Int) * (340282366920938463463374607431768211456 : Int)
  y : -((1099511627776 : Int) * (340282366920938463463374607431768211456 : Int)) ≤ a.y - (340282366920938463463374607431768211456 : Int) * b.y ∧ a.y - (340282366920938463463374607431768211456 : Int) * b.y ≤ (1099511627776 : Int) * (340282366920938463463374607431768211456 : Int)
  z : -((1099511627776 : Int) * (340282366920938463463374607431768211456 : Int)) ≤ a.z - (340282366920938463463374607431768211456 : Int) * b.z ∧ a.z - (340282366920938463463374607431768211456 : Int) * b.z ≤ (1099511627776 : Int) * (340282366920938463463374607431768211456 : Int)
structure MNear (a b : RM) : Prop where
  x : VNear a.x b.x
  y : VNear a.y b.y
  z : VNear a.z b.z
structure VMeet (a b : V3) : Prop where
  x : Iv.meetB a.x b.x = true
  y : Iv.meetB a.y b.y = true
  z : Iv.meetB a.z b.z = true
structure MMeet (a b : M3) : Prop where
  x : VMeet a.x b.x
  y : VMeet a.y b.y
  z : VMeet a.z b.z
end Go.Sx
namespace Go.Sx
structure Dg (P E : Int) (B : RM) : Prop where
  x : 0 ≤ P - R3.dot B.x B.x ∧ P - R3.dot B.x B.x ≤ E
  y : 0 ≤ P - R3.dot B.y B.y ∧ P - R3.dot B.y B.y ≤ E
  z : 0 ≤ P - R3.dot B.z B.z ∧ P - R3.dot B.z B.z ≤ E
  xy : R3.dot B.x B.y = 0
  xz : R3.dot B.x B.z = 0
  yz : R3.dot B.y B.z = 0
end Go.Sx
namespace Go.Sx
structure Orth (Q T : Int) (X : RM) : Prop where
  x : Q - T ≤ R3.dot X.x X.x ∧ R3.dot X.x X.x ≤ Q
  y : Q - T ≤ R3.dot X.y X.y ∧ R3.dot X.y X.y ≤ Q
  z : Q - T ≤ R3.dot X.z X.z ∧ R3.dot X.z X.z ≤ Q
  xy : -T ≤ R3.dot X.x X.y ∧ R3.dot X.x X.y ≤ T
  xz : -T ≤ R3.dot X.x X.z ∧ R3.dot X.x X.z ≤ T
  yz : -T ≤ R3.dot X.y X.z ∧ R3.dot X.y X.z ≤ T
end Go.Sx
namespace Go.Sx
structure Sub (a b : Iv) : Prop where
  ok : Ok a
  ok' : Ok b
  lo : b.lo ≤ a.lo
  hi : a.hi ≤ b.hi
theorem Sub.within {a b : Iv} (h : Sub a b) : Iv.within a b = true := by
  simp only [Iv.within, valid_of h.ok, valid_of h.ok', Bool.true_and, Bool.and_eq_true, decide_eq_true_eq]
  exact ⟨h.lo, h.hi⟩
theorem Sub.refl {a : Iv} (h : Ok a) : Sub a a := ⟨h, h, Int.le_refl _, Int.le_refl _⟩
theorem Sub.trans {a b c : Iv} (h : Sub a b) (k : Sub b c) : Sub a c := ⟨h.ok, k.ok', by have := h.lo; have := k.lo; omega, by have := h.hi; have := k.hi; omega⟩
theorem in1 {a b : Iv} (h : Sub a b) {x : Int} (h1 : a.lo ≤ x) (h2 : x ≤ a.hi) : In b 1 x := ⟨by have := h.lo; omega, by have := h.hi; omega⟩
theorem sub_mul {a a' b b' : Iv} (h : Sub a a') (k : Sub b b') : Sub (Iv.mul a b) (Iv.mul a' b') := by
  refine ⟨mul_Ok _ _, mul_Ok _ _, ?_, ?_⟩
  all_goals
    have va := h.ok
    have vb := k.ok
    have p1 := mul_prod (by decide) (by decide) (in1 h (x := a.lo) (Int.le_refl _) va.2.1) (in1 k (x := b.lo) (Int.le_refl _) vb.2.1)
    have p2 := mul_prod (by decide) (by decide) (in1 h (x := a.lo) (Int.le_refl _) va.2.1) (in1 k (x := b.hi) vb.2.1 (Int.le_refl _))
    have p3 := mul_prod (by decide) (by decide) (in1 h (x := a.hi) va.2.1 (Int.le_refl _)) (in1 k (x := b.lo) (Int.le_refl _) vb.2.1)
    have p4 := mul_prod (by decide) (by decide) (in1 h (x := a.hi) va.2.1 (Int.le_refl _)) (in1 k (x := b.hi) vb.2.1 (Int.le_refl _))
    simp only [Iv.mul, valid_of h.ok, valid_of h.ok', valid_of k.ok, valid_of k.ok', Bool.and_self, cond_true]
    simp only [Int.mul_one] at p1 p2 p3 p4
    refine clamp_mono ?_
  · have : min4 (a'.lo * b'.lo) (a'.lo * b'.hi) (a'.hi * b'.lo) (a'.hi * b'.hi) ≤ min4 (a.lo * b.lo) (a.lo * b.hi) (a.hi * b.lo) (a.hi * b.hi) := by
      generalize min4 (a'.lo * b'.lo) (a'.lo * b'.hi) (a'.hi * b'.lo) (a'.hi * b'.hi) = m at *
      unfold min4; omega
    omega
  · have : max4 (a.lo * b.lo) (a.lo * b.hi) (a.hi * b.lo) (a.hi * b.hi) ≤ max4 (a'.lo * b'.lo) (a'.lo * b'.hi) (a'.hi * b'.lo) (a'.hi * b'.hi) := by
      generalize max4 (a'.lo * b'.lo) (a'.lo * b'.hi) (a'.hi * b'.lo) (a'.hi * b'.hi) = m at *
      unfold max4; omega
    unfold ceilI
    omega
theorem sub_add {a a' b b' : Iv} (h : Sub a a') (k : Sub b b') : Sub (Iv.add a b) (Iv.add a' b') := by
  have h1 := h.lo; have h2 := h.hi; have k1 := k.lo; have k2 := k.hi
  refine ⟨add_Ok _ _, add_Ok _ _, ?_, ?_⟩ <;> simp only [Iv.add, valid_of h.ok, valid_of h.ok', valid_of k.ok, valid_of k.ok', Bool.and_self, cond_true] <;> exact clamp_mono (by omega)
theorem sub_neg {a a' : Iv} (h : Sub a a') : Sub (Iv.neg a) (Iv.neg a') := by
  have h1 := h.lo; have h2 := h.hi
  refine ⟨neg_Ok h.ok, neg_Ok h.ok', ?_, ?_⟩ <;> rw [neg_of h.ok, neg_of h.ok'] <;> simp only <;> omega
theorem sub_lim {a a' : Iv} (h : Sub a a') : Sub (limV a) (limV a') := by
  have h1 := h.lo; have h2 := h.hi
  exact ⟨lim_Ok h.ok, lim_Ok h.ok', by simp only [limV, limI]; omega, by simp only [limV, limI]; omega⟩
structure VSub (a b : V3) : Prop where
  x : Sub a.x b.x
  y : Sub a.y b.y
  z : Sub a.z b.z
structure MSub (a b : M3) : Prop where
  x : VSub a.x b.x
  y : VSub a.y b.y
  z : VSub a.z b.z
theorem VSub.refl {a : V3} (h : VOk a) : VSub a a := ⟨.refl h.x, .refl h.y, .refl h.z⟩
theorem MSub.refl {a : M3} (h : MOk a) : MSub a a := ⟨.refl h.x, .refl h.y, .refl h.z⟩
theorem VSub.within {a b : V3} (h : VSub a b) : V3.within a b = true := by simp only [V3.within, h.x.within, h.y.within, h.z.within, Bool.and_self]
theorem MSub.within {a b : M3} (h : MSub a b) : M3.within a b = true := by simp only [M3.within, h.x.within, h.y.within, h.z.within, Bool.and_self]
theorem MSub.tr {a b : M3} (h : MSub a b) : MSub a.tr b.tr := ⟨⟨h.x.x, h.y.x, h.z.x⟩, ⟨h.x.y, h.y.y, h.z.y⟩, ⟨h.x.z, h.y.z, h.z.z⟩⟩
theorem sub_dot {a a' b b' : V3} (h : VSub a a') (k : VSub b b') : Sub (V3.dot a b) (V3.dot a' b') := sub_add (sub_add (sub_mul h.x k.x) (sub_mul h.y k.y)) (sub_mul h.z k.z)
theorem sub_apply {a a' : M3} {b b' : V3} (h : MSub a a') (k : VSub b b') : VSub (M3.apply a b) (M3.apply a' b') := ⟨sub_dot h.x k, sub_dot h.y k, sub_dot h.z k⟩
theorem sub_row {a a' : V3} {b b' : M3} (h : VSub a a') (k : MSub b b') : VSub (M3.row a b) (M3.row a' b') := ⟨sub_lim (sub_dot h k.tr.x), sub_lim (sub_dot h k.tr.y), sub_lim (sub_dot h k.tr.z)⟩
theorem sub_Mmul {a a' b b' : M3} (h : MSub a a') (k : MSub b b') : MSub (M3.mul a b) (M3.mul a' b') := ⟨sub_row h.x k, sub_row h.y k, sub_row h.z k⟩
theorem sub_Vadd {a a' b b' : V3} (h : VSub a a') (k : VSub b b') : VSub (V3.add a b) (V3.add a' b') := ⟨sub_add h.x k.x, sub_add h.y k.y, sub_add h.z k.z⟩
theorem sub_sin {a a' : Iv} (h : Sub a a') : Sub (sinOverI a) (sinOverI a') := by
  have b1 := sinOver_b h.ok
  have b2 := sinOver_b h.ok'
  have n := ov_nested (c := 0) h.ok' ⟨h.lo, h.ok.2.1, h.hi⟩
  rw [sinOver_ov, sinOver_ov] at *
  exact ⟨by unfold Ok; omega, by unfold Ok; omega, n.1, n.2⟩
theorem sub_cos {a a' : Iv} (h : Sub a a') : Sub (cosOverI a) (cosOverI a') := by
  have b1 := cosOver_b h.ok
  have b2 := cosOver_b h.ok'
  have n := ov_nested (c := 16384) h.ok' ⟨h.lo, h.ok.2.1, h.hi⟩
  rw [cosOver_ov, cosOver_ov] at *
  exact ⟨by unfold Ok; omega, by unfold Ok; omega, n.1, n.2⟩
theorem sub_turn {k : Int} {a a' : Iv} (hk : 0 ≤ k ∧ k < 3) (h : Sub a a') : MSub (M3.turn k a) (M3.turn k a') := by
  have hk' : k = 0 ∨ k = 1 ∨ k = 2 := by omega
  rw [turn_at h.ok hk', turn_at h.ok' hk']
  have s := sub_sin h
  have c := sub_cos h
  have t := sub_neg s
  have o := Sub.refl one_Ok
  have z := Sub.refl zero_Ok
  rcases hk' with e | e | e <;> subst e
  · exact ⟨⟨o, z, z⟩, ⟨z, c, t⟩, ⟨z, s, c⟩⟩
  · exact ⟨⟨c, z, s⟩, ⟨z, o, z⟩, ⟨t, z, c⟩⟩
  · exact ⟨⟨c, t, z⟩, ⟨s, c, z⟩, ⟨z, z, o⟩⟩
theorem part_sub {a : Iv} (v : Ok a) (m k : Int) : Sub (partI a m k) a := by
  have h := part_in m k v.2.1
  unfold Ok at v
  exact ⟨by unfold Ok; omega, v, h.1, h.2.2⟩
end Go.Sx
namespace Go.Sx
theorem jsOf_get (L : List Int) (i : Nat) : ∀ (n k : Nat) (j : J), (jsOf L i n).1[k]? = some j → ∃ p, j = (jointOf L p (k : Int)).1
  | 0, k, j, h => by simp [jsOf] at h
  | n + 1, k, j, h => by
    have hl := jsOf_len L i n
    rcases Nat.lt_or_ge k n with hk | hk
    · exact jsOf_get L i n k j (by rw [← h]; show _ = ((jsOf L i n).1 ++ [_])[k]?; rw [List.getElem?_append_left (by omega)])
    · rcases Nat.lt_or_ge n k with hk2 | hk2
      · exfalso
        have := (List.getElem?_eq_some_iff.1 h).1
        rw [jsOf_len] at this
        omega
      · obtain rfl : k = n := by omega
        refine ⟨(jsOf L i k).2, ?_⟩
        have h' : ((jsOf L i k).1 ++ [(jointOf L (jsOf L i k).2 (k : Int)).1])[k]? = some j := h
        rw [List.getElem?_append_right (by omega), hl] at h'
        simp at h'
        exact h'.symm
theorem jointOf_same (L : List Int) (p : Nat) (k : Int) : (jointOf L p k).1.name = letterB k ∧ (jointOf L p k).1.kind = kindOf (srcR L (p + 2) 8) ∧ (jointOf L p k).1.parent = (jBase L p k).parent ∧ (jointOf L p k).1.off = (jBase L p k).off ∧
    (jointOf L p k).1.weight = 1 + srcR L p 4 ∧ (jointOf L p k).1.speed = 65536 ∧ (jointOf L p k).1.accel = 65536 + srcR L (p + 1) 3 ∧ (jointOf L p k).1.torque = 327680 := by
  unfold jointOf
  split
  · exact ⟨rfl, rfl, rfl, rfl, rfl, rfl, rfl, rfl⟩
  · split <;> exact ⟨rfl, rfl, rfl, rfl, rfl, rfl, rfl, rfl⟩
theorem kindOf_b (x : Int) : 0 ≤ kindOf x ∧ kindOf x ≤ 6 := by
  unfold kindOf; repeat' split
  all_goals omega
theorem bxs_valid {l : List Int} {js : List J} (hj : ∀ j ∈ js, JB j) : ∀ k, ∀ a ∈ (bxs l js k).1, Iv.valid a = true
  | 0, a, h => by cases h
  | k + 1, a, h => by
    cases hk : js[k]? with
    | none => simp only [bxs, hk] at h; exact bxs_valid hj k a h
    | some j =>
      simp only [bxs, hk] at h
      rcases List.mem_append.1 h with h | h
      · exact bxs_valid hj k a h
      · obtain rfl := List.mem_singleton.1 h
        obtain ⟨b1, b2, b3⟩ := hj j (List.mem_of_getElem? hk)
        have r := srcR_bnd l (bxs l js k).2 (k := j.hi - j.lo + 1) (by omega)
        have hx : 0 ≤ (bxW l ((bxs l js k).2 + 1) (j.hi - j.lo)).1 := by
          have a1 := srcR_bnd l ((bxs l js k).2 + 1 + 1) (k := 3000) (by decide)
          have a2 := srcR_bnd l ((bxs l js k).2 + 1 + 1) (k := 200) (by decide)
          unfold bxW
          repeat' split
          all_goals (dsimp only; omega)
        unfold Iv.valid bxLo
        simp only [Bool.and_eq_true, decide_eq_true_eq]
        omega
theorem msOf_get (L : List Int) (i : Nat) : ∀ n, ∀ m ∈ msOf L i n, (0 ≤ m.link ∧ m.link < nJ L i) ∧ (1 ≤ m.mass ∧ m.mass ≤ 65536) ∧ (-4194304 ≤ m.p.x ∧ m.p.x ≤ 4194304) ∧ (-4194304 ≤ m.p.y ∧ m.p.y ≤ 4194304) ∧ (-4194304 ≤ m.p.z ∧ m.p.z ≤ 4194304)
  | 0, m, h => by cases h
  | n + 1, m, h => by
    rcases List.mem_append.1 (show m ∈ msOf L i n ++ [_] from h) with h | h
    · exact msOf_get L i n m h
    · obtain rfl := List.mem_singleton.1 h
      have hn := nJ_b L i
      have a := srcR_bnd L (mQ L i + 1 + 4 * n) (k := (nJ L i : Int)) (by omega)
      have b := srcR_bnd L (mQ L i + 1 + 4 * n + 1) (k := 9000) (by decide)
      have c := srcR_bnd L (mQ L i + 1 + 4 * n + 2) (k := 2 * 3 + 1) (by decide)
      have d := srcR_bnd L (mQ L i + 1 + 4 * n + 3) (k := 2 * 2 + 1) (by decide)
      dsimp only
      unfold srcS
      omega
end Go.Sx
namespace Go.Sx
open Go.RowKit
section
variable {P : Program} {n : Nat} {w0 : Base} {ops : Array Oper} {Q : Exit → Act → World → Prop} {S : Slots} {H : Heap}
variable {ty : TypeId} {pos : String} {af : Array Edge} {g : Option (Nat × Bool)} {rest : List Oper}
theorem doL_storeRowV {t : TypeId} {x y : Operand} {b e sz j : Nat} {ag : Bool} {rows : List (List Value)} {vs : List Value} {v : Value} (id : Nat) (hT : tyB P t ag sz = true) (hR : lookR w0.R id = some ((· = b), RowsF b sz e rows))
    (hx : ev S x = some (pAt (some ⟨b, 0, none⟩) (j * sz))) (hy : ev S y = some v) (hj : j < rows.length) (hc : v.cells = vs.toArray) (hv : Nat.beq vs.length sz = true) (h1 : vs.all Value.oneCell' = true)
    (hw : wantedS ops S ⟨none, .store t x y, ty, pos, af, g⟩ = some true) (hu : (updR w0.R id (· = b) (RowsF b sz e (rows.set j vs))).isSome = true)
    (next : ∀ R', updR w0.R id (· = b) (RowsF b sz e (rows.set j vs)) = some R' → DoL P n ⟨w0.w, R'⟩ ops Q rest S H) :
    DoL P n w0 ops Q (⟨none, .store t x y, ty, pos, af, g⟩ :: rest) S H := by
  intro a w f k
  unfold wpList
  rw [wanted_fits f hw, if_pos rfl]
  refine .inl ?_
  obtain ⟨R', hR'⟩ := Option.isSome_iff_exists.1 hu
  have hF : RowsF b sz e rows w := holds_r hR _ _ k
  have hvs := Nat.eq_of_beq_eq_true hv
  have hlen : j * sz + sz ≤ rows.flatten.length := by
    rw [rows_len rows hF.1]
    have := Nat.mul_le_mul_right sz (show j + 1 ≤ rows.length from hj)
    rw [Nat.add_mul] at this
    omega
  have hst := run_storeCells_at P b (0 + j * sz) e vs 0 rows.flatten.toArray w hF.2 (by simp; simp at hlen; omega) (fun u hu => List.all_eq_true.1 h1 u hu)
  have hx' : ev S x = some (.pointer (some ⟨b, 0 + j * sz, none⟩)) := hx
  have hrun : (execOp a.eval ⟨none, .store t x y, ty, pos, af, g⟩).run P w = .ok .skip (w.setRow b (rows.set j vs).flatten.toArray) := by
    rw [rows_set rows j vs hF.1 hj hvs]
    simp only [Nat.add_zero, Nat.zero_add, hvs] at hst
    have hx2 : ev S x = some (.pointer (some ⟨b, j * sz, none⟩)) := by rw [hx', Nat.zero_add]
    simp [execOp, f.ev hx2, f.ev hy, Instr.storeAt, Instr.sureAddr, storeVar, tyB_size hT, hc, hvs, hst]
  unfold Oper.wp
  rw [hrun]
  refine next R' hR' _ _ f (k.swap hR (GrowB.set b w _) (fun _ h => h) (rowsF_dep _ _ _ _) ⟨fun r hr => ?_, setRow_heap w b _ _ e _ hF.2⟩ hR')
  rcases List.mem_or_eq_of_mem_set hr with h | h
  · exact hF.1 r h
  · rw [h]; exact hvs
end
def vc (v : V3) : List Value := [.int .i64 v.x.lo, .int .i64 v.x.hi, .int .i64 v.y.lo, .int .i64 v.y.hi, .int .i64 v.z.lo, .int .i64 v.z.hi]
def plR (p : Po) (l : List Z3) : List V3 := l.map fun z => Po.app p (V3.of z)
def zV : List Value := List.replicate 6 (.int .i64 0)
def plF (ps : List V3) (m : Nat) : List (List Value) := ps.map vc ++ List.replicate m zV
theorem plF_set {ps : List V3} {m : Nat} (v : V3) : (plF ps (m + 1)).set ps.length (vc v) = plF (ps ++ [v]) m := by
  unfold plF
  rw [List.set_append_right _ _ (by simp)]
  simp [List.replicate_succ]
theorem plF_me {ps : List V3} {m : Nat} : (plF ps (m + 1))[ps.length]? = some zV := by
  unfold plF
  rw [List.getElem?_append_right (by simp)]
  simp
theorem plR_take {p : Po} {l : List Z3} {k : Nat} {z : Z3} (h : l[k]? = some z) : plR p (l.take (k + 1)) = plR p (l.take k) ++ [Po.app p (V3.of z)] := by
  unfold plR
  rw [List.take_add_one, h]
  simp
def ZB (z : Z3) : Prop := (-4194304 ≤ z.x ∧ z.x ≤ 4194304) ∧ (-4194304 ≤ z.y ∧ z.y ≤ 4194304) ∧ (-4194304 ≤ z.z ∧ z.z ≤ 4194304)
def SpOK (n : Nat) (s : Sp) : Prop := (-1 ≤ s.link ∧ s.link < n) ∧ (1 ≤ s.radius ∧ s.radius ≤ 1048576) ∧ (1 ≤ s.pts.length ∧ s.pts.length ≤ 8) ∧ ∀ z ∈ s.pts, ZB z
def spP (ps : List Po) (s : Sp) : Po := if s.link = -1 then Po.rest else ps.getD s.link.toNat Po.rest
def ptsP (ps : List Po) (ss : List Sp) : List (List V3) := ss.map fun s => plR (spP ps s) s.pts
def plc (v : List V3) (b : Nat) : List Value := [.slice (some ⟨b, 0, none⟩) v.length v.length]
def plRows : List (List V3) → List Nat → List (List Value)
  | v :: vs, b :: bs => plc v b :: plRows vs bs
  | _, _ => []
def PlF : List (List V3) → List Nat → World → Prop
  | v :: vs, b :: bs, w => SlcIs 6 (some ⟨b, 0, none⟩) (v.map vc) w ∧ PlF vs bs w
  | _, _, _ => True
theorem plRows_len : ∀ (vs : List (List V3)) (bs : List Nat), bs.length = vs.length → (plRows vs bs).length = vs.length
  | [], _, _ => by simp [plRows]
  | _ :: vs, _ :: bs, h => by simp [plRows, plRows_len vs bs (by simpa using h)]
  | _ :: _, [], h => by simp at h
theorem plRows_snoc : ∀ (vs : List (List V3)) (bs : List Nat) (v : List V3) (b : Nat), bs.length = vs.length → plRows (vs ++ [v]) (bs ++ [b]) = plRows vs bs ++ [plc v b]
  | [], [], v, b, _ => rfl
  | _ :: vs, _ :: bs, v, b, h => by simp [plRows, plRows_snoc vs bs v b (by simpa using h)]
  | [], _ :: _, _, _, h => by simp at h
  | _ :: _, [], _, _, h => by simp at h
theorem plRows_get : ∀ (vs : List (List V3)) (bs : List Nat) (i : Nat) (v : List V3) (b : Nat), vs[i]? = some v → bs[i]? = some b → (plRows vs bs)[i]? = some (plc v b)
  | x :: vs, c :: bs, 0, v, b, h1, h2 => by
    simp at h1 h2
    subst h1 h2
    rfl
  | x :: vs, c :: bs, i + 1, v, b, h1, h2 => plRows_get vs bs i v b (by simpa using h1) (by simpa using h2)
  | [], _, _, _, _, h, _ => by simp at h
  | _ :: _, [], _, _, _, _, h => by simp at h
theorem PlF_snoc : ∀ (vs : List (List V3)) (bs : List Nat) (v : List V3) (b : Nat) (w : World), bs.length = vs.length → PlF vs bs w → SlcIs 6 (some ⟨b, 0, none⟩) (v.map vc) w → PlF (vs ++ [v]) (bs ++ [b]) w
  | [], [], _, _, _, _, _, h => ⟨h, trivial⟩
  | _ :: vs, _ :: bs, v, b, w, h, h1, h2 => ⟨h1.1, PlF_snoc vs bs v b w (by simpa using h) h1.2 h2⟩
  | [], _ :: _, _, _, _, h, _, _ => by simp at h
  | _ :: _, [], _, _, _, h, _, _ => by simp at h
theorem PlF_un : ∀ (vs : List (List V3)) (bs : List Nat) (v : List V3) (b : Nat) (w : World), bs.length = vs.length → PlF (vs ++ [v]) (bs ++ [b]) w → PlF vs bs w ∧ SlcIs 6 (some ⟨b, 0, none⟩) (v.map vc) w
  | [], [], _, _, _, _, h => ⟨trivial, h.1⟩
  | _ :: vs, _ :: bs, v, b, w, h, h1 => by
    obtain ⟨p, q⟩ := PlF_un vs bs v b w (by simpa using h) h1.2
    exact ⟨⟨h1.1, p⟩, q⟩
  | [], _ :: _, _, _, _, h, _ => by simp at h
  | _ :: _, [], _, _, _, h, _ => by simp at h
theorem PlF_dep {vs : List (List V3)} {bs : List Nat} {v : List V3} {b : Nat} {D1 D2 : Nat → Prop} (h : bs.length = vs.length) (h1 : Depends D1 (SlcIs 6 (some ⟨b, 0, none⟩) (v.map vc))) (h2 : Depends D2 (PlF vs bs)) : Depends (fun q => D1 q ∨ D2 q) (PlF (vs ++ [v]) (bs ++ [b])) := fun w w' hq hF => by
  obtain ⟨p, q⟩ := PlF_un vs bs v b w h hF
  exact PlF_snoc vs bs v b w' h (h2 w w' (fun k hk => hq k (.inr hk)) p) (h1 w w' (fun k hk => hq k (.inl hk)) q)
theorem PlF_get : ∀ (vs : List (List V3)) (bs : List Nat) (i : Nat) (v : List V3) (b : Nat) (w : World), vs[i]? = some v → bs[i]? = some b → PlF vs bs w → SlcIs 6 (some ⟨b, 0, none⟩) (v.map vc) w
  | x :: vs, c :: bs, 0, v, b, w, h1, h2, h => by
    simp at h1 h2
    subst h1 h2
    exact h.1
  | x :: vs, c :: bs, i + 1, v, b, w, h1, h2, h => PlF_get vs bs i v b w (by simpa using h1) (by simpa using h2) h.2
  | [], _, _, _, _, _, h, _, _ => by simp at h
  | _ :: _, [], _, _, _, _, _, h, _ => by simp at h
theorem PtsF_get : ∀ (ss : List Sp) (ds : List Ad) (i : Nat) (s : Sp) (d : Ad) (w : World), ss[i]? = some s → ds[i]? = some d → PtsF ss ds w → SlcIs 3 d.1 (s.pts.map z3c) w
  | x :: ss, c :: ds, 0, s, d, w, h1, h2, h => by
    simp at h1 h2
    subst h1 h2
    exact h.1
  | x :: ss, c :: ds, i + 1, s, d, w, h1, h2, h => PtsF_get ss ds i s d w (by simpa using h1) (by simpa using h2) h.2
  | [], _, _, _, _, _, h, _, _ => by simp at h
  | _ :: _, [], _, _, _, _, _, h, _ => by simp at h
theorem spRows_get : ∀ (ss : List Sp) (ds : List Ad) (i : Nat) (s : Sp) (d : Ad), ss[i]? = some s → ds[i]? = some d → (spRows ss ds)[i]? = some (spc s d)
  | x :: ss, c :: ds, 0, s, d, h1, h2 => by
    simp at h1 h2
    subst h1 h2
    rfl
  | x :: ss, c :: ds, i + 1, s, d, h1, h2 => spRows_get ss ds i s d (by simpa using h1) (by simpa using h2)
  | [], _, _, _, _, h, _ => by simp at h
  | _ :: _, [], _, _, _, _, h => by simp at h
theorem PtsF_grow {w w' : World} : ∀ (ss : List Sp) (ds : List Ad), PtsF ss ds w → Grow w w' → PtsF ss ds w'
  | [], _, _, _ => trivial
  | _ :: _, [], _, _ => trivial
  | s :: ss, d :: ds, h, g => ⟨slc_grow h.1 g, PtsF_grow ss ds h.2 g⟩
def lsR (vs : List (List V3)) (bs : List Nat) (m : Nat) : List (List Value) := plRows vs bs ++ List.replicate m [.slice none 0 0]
theorem lsR_set {vs : List (List V3)} {bs : List Nat} {m : Nat} (v : List V3) (b : Nat) (h : bs.length = vs.length) : (lsR vs bs (m + 1)).set vs.length (plc v b) = lsR (vs ++ [v]) (bs ++ [b]) m := by
  unfold lsR
  rw [plRows_snoc vs bs v b h, List.set_append_right _ _ (by rw [plRows_len vs bs h]; exact Nat.le_refl _), plRows_len vs bs h]
  simp [List.replicate_succ]
theorem lsR_me {vs : List (List V3)} {bs : List Nat} {m : Nat} (h : bs.length = vs.length) : (lsR vs bs (m + 1))[vs.length]? = some [.slice none 0 0] := by
  unfold lsR
  rw [List.getElem?_append_right (by rw [plRows_len vs bs h]; exact Nat.le_refl _), plRows_len vs bs h]
  simp
theorem ptsP_take {ps : List Po} {ss : List Sp} {k : Nat} {s : Sp} (h : ss[k]? = some s) : ptsP ps (ss.take (k + 1)) = ptsP ps (ss.take k) ++ [plR (spP ps s) s.pts] := by
  unfold ptsP
  rw [List.take_add_one, h]
  simp
end Go.Sx
namespace Go.Sx
theorem ptsOf_b {L : List Int} {p : Nat} {c : Z3} (hc : (-294912 ≤ c.x ∧ c.x ≤ 294912) ∧ (-294912 ≤ c.y ∧ c.y ≤ 294912) ∧ (-294912 ≤ c.z ∧ c.z ≤ 294912)) : ∀ k, ∀ z ∈ ptsOf L p c k, ZB z
  | 0, z, h => by
    obtain rfl := List.mem_singleton.1 h
    unfold ZB; omega
  | k + 1, z, h => by
    rcases List.mem_append.1 (show z ∈ ptsOf L p c k ++ [_] from h) with h | h
    · exact ptsOf_b hc k z h
    · obtain rfl := List.mem_singleton.1 h
      have a := srcR_bnd L (p + 1 + 3 * k) (k := 2 * 3 + 1) (by decide)
      have b := srcR_bnd L (p + 1 + 3 * k + 1) (k := 2 * 2 + 1) (by decide)
      have d := srcR_bnd L (p + 1 + 3 * k + 2) (k := 2 * 2 + 1) (by decide)
      unfold ZB ptOf srcS
      dsimp only
      omega
theorem rad_b {r : Int} (h : 0 ≤ r ∧ r < 4) : 1 ≤ ((1 + r) * 65536).tdiv 8 ∧ ((1 + r) * 65536).tdiv 8 ≤ 1048576 := by
  rw [Int.tdiv_eq_ediv_of_nonneg (by omega)]
  omega
theorem shA_ok (l : List Int) : ∀ k, k ≤ nJ l 0 → ∀ s ∈ (shA l k).1, SpOK (nJ l 0) s
  | 0, _, s, h => by cases h
  | k + 1, hk, s, h => by
    unfold shA at h
    split at h
    · rcases List.mem_append.1 h with h | h
      · exact shA_ok l k (by omega) s h
      · obtain rfl := List.mem_singleton.1 h
        have r1 := srcR_bnd l ((shA l k).2 + 1) (k := 3) (by decide)
        have r2 := srcR_bnd l ((shA l k).2 + 2) (k := 4) (by decide)
        have hp := ptsN_b l ((shA l k).2 + 3)
        refine ⟨by unfold linkSp; dsimp only; omega, rad_b (by omega), by unfold linkSp; dsimp only; rw [ptsOf_len]; omega, ptsOf_b (by dsimp only; omega) _⟩
    · exact shA_ok l k (by omega) s h
theorem shB_ok (l : List Int) : ∀ k, ∀ s ∈ (shB l k).1, SpOK (nJ l 0) s
  | 0, s, h => shA_ok l _ (Nat.le_refl _) s h
  | k + 1, s, h => by
    rcases List.mem_append.1 (show s ∈ (shB l k).1 ++ [_] from h) with h | h
    · exact shB_ok l k s h
    · obtain rfl := List.mem_singleton.1 h
      have r1 := srcR_bnd l ((shB l k).2 + 3) (k := 4) (by decide)
      have r2 := srcR_bnd l (shB l k).2 (k := 2 * 9 + 1) (by decide)
      have r3 := srcR_bnd l ((shB l k).2 + 1) (k := 2 * 9 + 1) (by decide)
      have r4 := srcR_bnd l ((shB l k).2 + 2) (k := 2 * 2 + 1) (by decide)
      have hp := ptsN_b l ((shB l k).2 + 4)
      have hn := nJ_b l 0
      refine ⟨by unfold obSp; dsimp only; omega, rad_b (by omega), by unfold obSp; dsimp only; rw [ptsOf_len]; omega, ptsOf_b (by unfold srcS; dsimp only; omega) _⟩
theorem skR_ok (l : List Int) : (skR l).length = skN l ∧ skN l ≤ 64 ∧ ∀ r ∈ skR l, ∃ a b : Int, r = [.int .i64 a, .int .i64 b] ∧ (-1 ≤ a ∧ a < (nJ l 0 : Int)) ∧ (-1 ≤ b ∧ b < (nJ l 0 : Int)) := by
  have hn := nJ_b l 0
  have hr := srcR_bnd l (scQ l + 1) (k := (nJ l 0 : Int)) (by omega)
  by_cases h : srcR l (scQ l) 5 = 1
  · obtain ⟨h1, h2⟩ := sk_t h
    rw [h1, h2]
    refine ⟨rfl, by decide, fun r hr2 => ?_⟩
    obtain rfl := List.mem_singleton.1 hr2
    exact ⟨_, _, rfl, by omega, by omega⟩
  · obtain ⟨h1, h2⟩ := sk_f h
    rw [h1, h2]
    exact ⟨rfl, by decide, fun r hr2 => by cases hr2⟩
end Go.Sx
namespace Go.Sx
structure PSub (p q : Po) : Prop where
  r : MSub p.r q.r
  t : VSub p.t q.t
theorem PSub.within {p q : Po} (h : PSub p q) : Po.within p q = true := by simp only [Po.within, h.r.within, h.t.within, Bool.and_self]
theorem sub_papp {p q : Po} {u v : V3} (h : PSub p q) (k : VSub u v) : VSub (Po.app p u) (Po.app q v) := sub_Vadd h.t (sub_apply h.r k)
theorem sub_pmul {p q p' q' : Po} (h : PSub p q) (k : PSub p' q') : PSub (Po.mul p p') (Po.mul q q') := ⟨sub_Mmul h.r k.r, sub_papp h k.t⟩
theorem sub0 : Sub iv0 iv0 := .refl zero_Ok
theorem sub1 : Sub iv1 iv1 := .refl one_Ok
theorem sub_unit : MSub M3.unit M3.unit := ⟨⟨sub1, sub0, sub0⟩, ⟨sub0, sub1, sub0⟩, ⟨sub0, sub0, sub1⟩⟩
theorem sub_rest : PSub Po.rest Po.rest := ⟨sub_unit, ⟨sub0, sub0, sub0⟩⟩
theorem ofOk (x : Int) : Ok (Iv.of x) := ⟨(clampM x).1, Int.le_refl _, (clampM x).2⟩
theorem sub_of (z : Z3) : VSub (V3.of z) (V3.of z) := ⟨.refl (ofOk _), .refl (ofOk _), .refl (ofOk _)⟩
theorem sub_put {k : Int} {a b : Iv} (h : Sub a b) : VSub (V3.put k a) (V3.put k b) := by
  unfold V3.put
  split
  · exact ⟨h, sub0, sub0⟩
  · split
    · exact ⟨sub0, h, sub0⟩
    · exact ⟨sub0, sub0, h⟩
theorem sub_jPose {k : Int} {o : Z3} {a b : Iv} (h : Sub a b) : PSub (jPose k o a) (jPose k o b) := by
  unfold jPose
  refine sub_pmul ⟨sub_unit, sub_of o⟩ ?_
  unfold jMot
  split
  · exact ⟨sub_turn (by omega) h, ⟨sub0, sub0, sub0⟩⟩
  · split
    · exact ⟨sub_unit, sub_put h⟩
    · exact sub_rest
def BSub (a b : List Iv) : Prop := a.length = b.length ∧ ∀ (i : Nat) (x y : Iv), a[i]? = some x → b[i]? = some y → Sub x y
def LSub (a b : List Po) : Prop := a.length = b.length ∧ ∀ (i : Nat) (x y : Po), a[i]? = some x → b[i]? = some y → PSub x y
theorem LSub.getD {a b : List Po} (h : LSub a b) (i : Nat) : PSub (a.getD i Po.rest) (b.getD i Po.rest) := by
  rw [List.getD_eq_getElem?_getD, List.getD_eq_getElem?_getD]
  rcases Nat.lt_or_ge i a.length with hi | hi
  · have e1 : a[i]? = some a[i] := List.getElem?_eq_getElem hi
    have e2 : b[i]? = some (b[i]'(by have := h.1; omega)) := List.getElem?_eq_getElem (by have := h.1; omega)
    have := h.2 i _ _ e1 e2
    rw [e1, e2]
    exact this
  · rw [List.getElem?_eq_none hi, List.getElem?_eq_none (by have := h.1; omega)]
    exact sub_rest
theorem LSub.snoc {a b : List Po} {p q : Po} (h : LSub a b) (k : PSub p q) : LSub (a ++ [p]) (b ++ [q]) := by
  have hl := h.1
  refine ⟨by simp [hl], fun i x y hx hy => ?_⟩
  rcases Nat.lt_or_ge i a.length with hi | hi
  · rw [List.getElem?_append_left hi] at hx
    rw [List.getElem?_append_left (by omega)] at hy
    exact h.2 i x y hx hy
  · have hi2 : i < (a ++ [p]).length := (List.getElem?_eq_some_iff.1 hx).1
    simp only [List.length_append, List.length_singleton] at hi2
    obtain rfl : i = a.length := by omega
    rw [List.getElem?_append_right (Nat.le_refl _), Nat.sub_self] at hx
    rw [hl, List.getElem?_append_right (Nat.le_refl _), Nat.sub_self] at hy
    simp at hx hy
    subst hx hy
    exact k
theorem sub_lks {js : List J} {a b : List Iv} (h : BSub a b) : ∀ n, LSub (lks js a n) (lks js b n)
  | 0 => ⟨rfl, fun i x y hx => by simp [lks] at hx⟩
  | n + 1 => by
    have ih := sub_lks h n (js := js)
    cases hj : js[n]? with
    | none => simp only [lks, hj]; exact ih
    | some j =>
      rcases Nat.lt_or_ge n a.length with hn | hn
      · have e1 : a[n]? = some a[n] := List.getElem?_eq_getElem hn
        have e2 : b[n]? = some (b[n]'(by have := h.1; omega)) := List.getElem?_eq_getElem (by have := h.1; omega)
        have hs := h.2 n _ _ e1 e2
        rw [lks_succ hj e1, lks_succ hj e2]
        refine ih.snoc ?_
        unfold lkP
        split
        · exact sub_jPose hs
        · exact sub_pmul (ih.getD _) (sub_jPose hs)
      · have e1 : a[n]? = none := List.getElem?_eq_none hn
        have e2 : b[n]? = none := List.getElem?_eq_none (by have := h.1; omega)
        simp only [lks, hj, e1, e2]
        exact ih
theorem sub_spP {ps qs : List Po} (h : LSub ps qs) (s : Sp) : PSub (spP ps s) (spP qs s) := by
  unfold spP
  split
  · exact sub_rest
  · exact h.getD _
theorem sub_pt {ps qs : List Po} {ss : List Sp} (h : LSub ps qs) {i j : Nat} {u v : List V3} {x y : V3} (hu : (ptsP ps ss)[i]? = some u) (hv : (ptsP qs ss)[i]? = some v) (hx : u[j]? = some x) (hy : v[j]? = some y) : VSub x y := by
  unfold ptsP at hu hv
  rw [List.getElem?_map] at hu hv
  cases hs : ss[i]? with
  | none => rw [hs] at hu; cases hu
  | some s =>
    rw [hs] at hu hv
    simp only [Option.map_some, Option.some.injEq] at hu hv
    subst hu hv
    unfold plR at hx hy
    rw [List.getElem?_map] at hx hy
    cases hz : s.pts[j]? with
    | none => rw [hz] at hx; cases hx
    | some z =>
      rw [hz] at hx hy
      simp only [Option.map_some, Option.some.injEq] at hx hy
      subst hx hy
      exact sub_papp (sub_spP h s) (sub_of z)
theorem ptsP_len {ps : List Po} {ss : List Sp} {i : Nat} {s : Sp} {u : List V3} (hs : ss[i]? = some s) (hu : (ptsP ps ss)[i]? = some u) : u.length = s.pts.length := by
  unfold ptsP at hu
  rw [List.getElem?_map, hs] at hu
  simp only [Option.map_some, Option.some.injEq] at hu
  subst hu
  simp [plR]
def wths (l : List Int) (bs : List Iv) : Nat → List Iv
  | 0 => []
  | k + 1 => match bs[k]? with
    | some a => wths l bs k ++ [partI a (srcR l (2 * k) 1073741824) (srcR l (2 * k + 1) 1073741824)]
    | none => wths l bs k
theorem wths_succ {l : List Int} {bs : List Iv} {k : Nat} {a : Iv} (h : bs[k]? = some a) : wths l bs (k + 1) = wths l bs k ++ [partI a (srcR l (2 * k) 1073741824) (srcR l (2 * k + 1) 1073741824)] := by
  simp only [wths, h]
theorem wths_len {l : List Int} {bs : List Iv} : ∀ k, k ≤ bs.length → (wths l bs k).length = k
  | 0, _ => rfl
  | k + 1, h => by
    have e : bs[k]? = some bs[k] := List.getElem?_eq_getElem (by omega)
    rw [wths_succ e, List.length_append, wths_len k (by omega)]
    rfl
theorem wths_get {l : List Int} {bs : List Iv} (hv : ∀ a ∈ bs, Ok a) : ∀ k, k ≤ bs.length → ∀ (i : Nat) (x y : Iv), (wths l bs k)[i]? = some x → bs[i]? = some y → Sub x y
  | 0, _, i, x, y, hx, _ => by simp [wths] at hx
  | k + 1, h, i, x, y, hx, hy => by
    have e : bs[k]? = some bs[k] := List.getElem?_eq_getElem (by omega)
    have hl := wths_len (l := l) (bs := bs) k (by omega)
    rw [wths_succ e] at hx
    rcases Nat.lt_or_ge i k with hi | hi
    · rw [List.getElem?_append_left (by omega)] at hx
      exact wths_get hv k (by omega) i x y hx hy
    · have hi2 := (List.getElem?_eq_some_iff.1 hx).1
      simp only [List.length_append, List.length_singleton, hl] at hi2
      obtain rfl : i = k := by omega
      rw [List.getElem?_append_right (by omega), hl, Nat.sub_self] at hx
      rw [e] at hy
      simp at hx hy
      subst hx hy
      exact part_sub (hv _ (List.getElem_mem _)) _ _
theorem wths_sub {l : List Int} {bs : List Iv} (hv : ∀ a ∈ bs, Ok a) : BSub (wths l bs bs.length) bs := ⟨wths_len _ (Nat.le_refl _), wths_get hv _ (Nat.le_refl _)⟩
theorem BSub.valid {a b : List Iv} (h : BSub a b) : ∀ x ∈ a, Iv.valid x = true := fun x hx => by
  obtain ⟨i, hi⟩ := List.mem_iff_getElem?.1 hx
  have hl := (List.getElem?_eq_some_iff.1 hi).1
  have e : b[i]? = some (b[i]'(by have := h.1; omega)) := List.getElem?_eq_getElem (by have := h.1; omega)
  exact valid_of (h.2 i x _ hi e).ok
theorem ok_of {a : Iv} (h : Iv.valid a = true) : Ok a := by
  unfold Iv.valid at h
  simp only [Bool.and_eq_true, decide_eq_true_eq] at h
  exact ⟨h.1.1, h.1.2, h.2⟩
end Go.Sx
namespace Go.Sx
open Go.RowKit
def deadB (ops : Array Oper) (S : Slots) (o : Oper) : Bool :=
  match o.guard with
  | none => false
  | some (j, _) => match (ops[j]?).bind (·.dst) with
    | some d => match look S d with
      | some (.tuple _) => true
      | _ => false
    | none => false
theorem wanted_dead {n : Nat} {S : Slots} {a : Act} {ops : Array Oper} {o : Oper} (f : Fits n S a) (h : deadB ops S o = true) : Region.wanted o (yielded ops a.tmps) = false := by
  unfold deadB at h
  unfold Region.wanted
  cases hg : o.guard with
  | none => simp [hg] at h
  | some gg =>
    obtain ⟨j, c⟩ := gg
    simp only [hg] at h ⊢
    unfold yielded
    cases hd : (ops[j]?).bind (·.dst) with
    | none => simp [hd] at h
    | some dd =>
      simp only [hd] at h ⊢
      cases hl : look S dd with
      | none => simp [hl] at h
      | some v =>
        rw [hl] at h
        cases v <;> simp at h
        simp [f.has dd _ hl]
theorem doL_dead {P : Program} {n : Nat} {w0 : Base} {ops : Array Oper} {Q : Exit → Act → World → Prop} {S : Slots} {H : Heap} {o : Oper} {rest : List Oper} {d : Nat} (hw : deadB ops S o = true) (hd : o.dst = some d) (hn : Nat.blt d n = true)
    (next : DoL P n w0 ops Q rest ((d, undef) :: S) H) : DoL P n w0 ops Q (o :: rest) S H := by
  intro a w f k
  unfold wpList
  rw [wanted_dead f hw, if_neg (by simp), hd]
  exact next _ _ (f.put hn _) k
section
variable {P : Program} {w0 : Base} {S : Slots} {H : Heap} {ty : TypeId} {pos : String} {af : Array Edge} {g : Option (Nat × Bool)}
theorem opV_eqlS {dd : Option Tmp} {x y : Operand} {t t' : TypeId} {p q : ByteArray} (hb : P.underlying t = some .string) (hx : ev S x = some (.string p)) (hy : ev S y = some (.string q)) : OpV P w0 S H ⟨dd, .binOp .eql t x y t', ty, pos, af, g⟩ (.bool (p.toList == q.toList)) :=
  opV_of (by simp [knownB, Op.operands, hx, hy]) rfl fun w _ => by simp [execOp, evD_of hx, evD_of hy, eqGuard, binOp, Op.stringOp]
theorem opV_lenStr {dd : Option Tmp} {x : Operand} {t : TypeId} {p : ByteArray} (hb : P.underlying t = some .string) (hx : ev S x = some (.string p)) : OpV P w0 S H ⟨dd, .call ⟨.builtin .len, #[x], #[t]⟩, ty, pos, af, g⟩ (.int .i64 (p.size : Int)) :=
  opV_of (by simp [knownB, Op.operands, Call.operands, hx]) rfl fun w _ => by simp [execOp, resolve, invoke, builtin, evD_of hx, Builtin.len_, run_underlying hb, goInt]
end
end Go.Sx
namespace Go.Proofs.YtonampcmhhhffaaGreat
open Go.Sx
theorem fa44_0 : fieldB Tryz.prog 44 0 0 = true := by kernel_rfl
theorem ty2 : tyB Tryz.prog 2 false 1 = true := by kernel_rfl
theorem fa44_1 : fieldB Tryz.prog 44 1 1 = true := by kernel_rfl
theorem ze44 : zeroIs Tryz.prog 44 (.agg #[.int .i64 0, .int .i64 0]) := by unfold zeroIs; kernel_rfl
theorem en120 : Enters Tryz.prog 120 := enters_of Tryz.func120 (by kernel_rfl) (by kernel_rfl)
theorem la44 : layoutOf Tryz.prog 44 = some ([.int .i64 0, .int .i64 0], [(0, 1), (1, 1)]) := by kernel_rfl
theorem ty44 : tyB Tryz.prog 44 true 2 = true := by kernel_rfl
theorem en61 : Enters Tryz.prog 61 := enters_of Tryz.func61 (by kernel_rfl) (by kernel_rfl)
theorem en111 : Enters Tryz.prog 111 := enters_of Tryz.func111 (by kernel_rfl) (by kernel_rfl)
theorem en51 : Enters Tryz.prog 51 := enters_of Tryz.func51 (by kernel_rfl) (by kernel_rfl)
theorem en35 : Enters Tryz.prog 35 := enters_of Tryz.func35 (by kernel_rfl) (by kernel_rfl)
theorem en60 : Enters Tryz.prog 60 := enters_of Tryz.func60 (by kernel_rfl) (by kernel_rfl)
theorem en118 : Enters Tryz.prog 118 := enters_of Tryz.func118 (by kernel_rfl) (by kernel_rfl)
theorem mo : Tryz.prog.follows .mixedOrders = true := by kernel_rfl
theorem en62 : Enters Tryz.prog 62 := enters_of Tryz.func62 (by kernel_rfl) (by kernel_rfl)
theorem en63 : Enters Tryz.prog 63 := enters_of Tryz.func63 (by kernel_rfl) (by kernel_rfl)
theorem iValid (a0 a1 : Int) (w : World) : Calls Tryz.prog 51 [.agg #[.int .i64 a0, .int .i64 a1]].toArray w (Rets (vB (Iv.valid (⟨a0, a1⟩ : Iv))) (w)) := by
  refine calls_of_doC (n := 18) Tryz.func51 rfl rfl rfl ?_
  refine doC_seq ?_
  refine doC_region ?_
  refine doL_box 1 rfl rfl rfl rfl ?_; intro b1
  refine doL_v (opV_assign rfl) rfl rfl rfl ?_
  refine doL_nil ?_
  refine post_then ?_
  refine doC_seq ?_
  refine doC_region ?_
  refine doL_v (opV_fieldAddr fa44_0 rfl) rfl rfl rfl ?_
  refine doL_v (opV_load1 1 ty2 rfl rfl rfl) rfl rfl rfl ?_
  refine doL_v (opV_leq rfl rfl) rfl rfl rfl ?_
  refine doL_v (opV_move rfl) rfl rfl rfl ?_
  refine doL_split 6 rfl (fun hg6 => ?_) (fun hg6 => ?_)
  ·
    refine doL_v (opV_fieldAddr fa44_0 rfl) rfl rfl rfl ?_
    refine doL_v (opV_load1 1 ty2 rfl rfl rfl) rfl rfl rfl ?_
    refine doL_v (opV_fieldAddr fa44_1 rfl) rfl rfl rfl ?_
    refine doL_v (opV_load1 1 ty2 rfl rfl rfl) rfl rfl rfl ?_
    refine doL_v (opV_leq rfl rfl) rfl rfl rfl ?_
    refine doL_v (opV_pick_t rfl rfl rfl rfl) rfl rfl rfl ?_
    refine doL_v (opV_move rfl) rfl rfl rfl ?_
    refine doL_split 13 rfl (fun hg13 => ?_) (fun hg13 => ?_)
    ·
      refine doL_v (opV_fieldAddr fa44_1 rfl) rfl rfl rfl ?_
      refine doL_v (opV_load1 1 ty2 rfl rfl rfl) rfl rfl rfl ?_
      refine doL_v (opV_leq rfl rfl) rfl rfl rfl ?_
      refine doL_v (opV_pick_t rfl rfl rfl rfl) rfl rfl rfl ?_
      refine doL_v (opV_assign rfl) rfl rfl rfl ?_
      refine doL_nil ?_
      refine post_then ?_
      refine doC_ret ?_
      refine post_rets (rs := [.tmp 2]) rfl (resC (resIs_tmp rfl) (resN)) (congrArg (vB) (?_ : _ = Iv.valid (⟨a0, a1⟩ : Iv)))
      simp only [Iv.valid, *, Bool.and_false, Bool.and_true, Bool.true_and, Bool.false_and]
    ·
      refine doL_skip rfl rfl rfl ?_
      refine doL_skip rfl rfl rfl ?_
      refine doL_skip rfl rfl rfl ?_
      refine doL_v (opV_pick_f rfl rfl rfl rfl) rfl rfl rfl ?_
      refine doL_v (opV_assign rfl) rfl rfl rfl ?_
      refine doL_nil ?_
      refine post_then ?_
      refine doC_ret ?_
      refine post_rets (rs := [.tmp 2]) rfl (resC (resIs_tmp rfl) (resN)) (congrArg (vB) (?_ : _ = Iv.valid (⟨a0, a1⟩ : Iv)))
      simp only [Iv.valid, *, Bool.and_false, Bool.and_true, Bool.true_and, Bool.false_and]
  ·
    refine doL_skip rfl rfl rfl ?_
    refine doL_skip rfl rfl rfl ?_
    refine doL_skip rfl rfl rfl ?_
    refine doL_skip rfl rfl rfl ?_
    refine doL_skip rfl rfl rfl ?_
    refine doL_v (opV_pick_f rfl rfl rfl rfl) rfl rfl rfl ?_
    refine doL_v (opV_move rfl) rfl rfl rfl ?_
    refine doL_skip rfl rfl rfl ?_
    refine doL_skip rfl rfl rfl ?_
    refine doL_skip rfl rfl rfl ?_
    refine doL_v (opV_pick_f rfl rfl rfl rfl) rfl rfl rfl ?_
    refine doL_v (opV_assign rfl) rfl rfl rfl ?_
    refine doL_nil ?_
    refine post_then ?_
    refine doC_ret ?_
    refine post_rets (rs := [.tmp 2]) rfl (resC (resIs_tmp rfl) (resN)) (congrArg (vB) (?_ : _ = Iv.valid (⟨a0, a1⟩ : Iv)))
    simp only [Iv.valid, *, Bool.and_false, Bool.and_true, Bool.true_and, Bool.false_and]
theorem rValid (a0 a1 : Int) (w : World) : Calls Tryz.prog 35 [.agg #[.int .i64 a0, .int .i64 a1]].toArray w (Rets (vB (Iv.valid (⟨a0, a1⟩ : Iv))) (w)) := by
  refine calls_of_doC (n := 18) Tryz.func35 rfl rfl rfl ?_
  refine doC_seq ?_
  refine doC_region ?_
  refine doL_box 1 rfl rfl rfl rfl ?_; intro b1
  refine doL_v (opV_assign rfl) rfl rfl rfl ?_
  refine doL_nil ?_
  refine post_then ?_
  refine doC_seq ?_
  refine doC_region ?_
  refine doL_v (opV_fieldAddr fa44_0 rfl) rfl rfl rfl ?_
  refine doL_v (opV_load1 1 ty2 rfl rfl rfl) rfl rfl rfl ?_
  refine doL_v (opV_leq rfl rfl) rfl rfl rfl ?_
  refine doL_v (opV_move rfl) rfl rfl rfl ?_
  refine doL_split 6 rfl (fun hg6 => ?_) (fun hg6 => ?_)
  ·
    refine doL_v (opV_fieldAddr fa44_0 rfl) rfl rfl rfl ?_
    refine doL_v (opV_load1 1 ty2 rfl rfl rfl) rfl rfl rfl ?_
    refine doL_v (opV_fieldAddr fa44_1 rfl) rfl rfl rfl ?_
    refine doL_v (opV_load1 1 ty2 rfl rfl rfl) rfl rfl rfl ?_
    refine doL_v (opV_leq rfl rfl) rfl rfl rfl ?_
    refine doL_v (opV_pick_t rfl rfl rfl rfl) rfl rfl rfl ?_
    refine doL_v (opV_move rfl) rfl rfl rfl ?_
    refine doL_split 13 rfl (fun hg13 => ?_) (fun hg13 => ?_)
    ·
      refine doL_v (opV_fieldAddr fa44_1 rfl) rfl rfl rfl ?_
      refine doL_v (opV_load1 1 ty2 rfl rfl rfl) rfl rfl rfl ?_
      refine doL_v (opV_leq rfl rfl) rfl rfl rfl ?_
      refine doL_v (opV_pick_t rfl rfl rfl rfl) rfl rfl rfl ?_
      refine doL_v (opV_assign rfl) rfl rfl rfl ?_
      refine doL_nil ?_
      refine post_then ?_
      refine doC_ret ?_
      refine post_rets (rs := [.tmp 2]) rfl (resC (resIs_tmp rfl) (resN)) (congrArg (vB) (?_ : _ = Iv.valid (⟨a0, a1⟩ : Iv)))
      simp only [Iv.valid, *, Bool.and_false, Bool.and_true, Bool.true_and, Bool.false_and]
    ·
      refine doL_skip rfl rfl rfl ?_
      refine doL_skip rfl rfl rfl ?_
      refine doL_skip rfl rfl rfl ?_
      refine doL_v (opV_pick_f rfl rfl rfl rfl) rfl rfl rfl ?_
      refine doL_v (opV_assign rfl) rfl rfl rfl ?_
      refine doL_nil ?_
      refine post_then ?_
      refine doC_ret ?_
      refine post_rets (rs := [.tmp 2]) rfl (resC (resIs_tmp rfl) (resN)) (congrArg (vB) (?_ : _ = Iv.valid (⟨a0, a1⟩ : Iv)))
      simp only [Iv.valid, *, Bool.and_false, Bool.and_true, Bool.true_and, Bool.false_and]
  ·
    refine doL_skip rfl rfl rfl ?_
    refine doL_skip rfl rfl rfl ?_
    refine doL_skip rfl rfl rfl ?_
    refine doL_skip rfl rfl rfl ?_
    refine doL_skip rfl rfl rfl ?_
    refine doL_v (opV_pick_f rfl rfl rfl rfl) rfl rfl rfl ?_
    refine doL_v (opV_move rfl) rfl rfl rfl ?_
    refine doL_skip rfl rfl rfl ?_
    refine doL_skip rfl rfl rfl ?_
    refine doL_skip rfl rfl rfl ?_
    refine doL_v (opV_pick_f rfl rfl rfl rfl) rfl rfl rfl ?_
    refine doL_v (opV_assign rfl) rfl rfl rfl ?_
    refine doL_nil ?_
    refine post_then ?_
    refine doC_ret ?_
    refine post_rets (rs := [.tmp 2]) rfl (resC (resIs_tmp rfl) (resN)) (congrArg (vB) (?_ : _ = Iv.valid (⟨a0, a1⟩ : Iv)))
    simp only [Iv.valid, *, Bool.and_false, Bool.and_true, Bool.true_and, Bool.false_and]
theorem fClamp (a : Int) (w : World) : Calls Tryz.prog 120 [.int .i64 a].toArray w (Rets (vI (clampI a)) (w)) := by
  refine calls_of_doC (n := 6) Tryz.func120 rfl rfl rfl ?_
  refine doC_seq ?_
  refine doC_region ?_
  refine doL_v (opV_assign rfl) rfl rfl rfl ?_
  refine doL_nil ?_
  refine post_then ?_
  refine doC_seq ?_
  refine doC_region ?_
  refine doL_v (opV_move rfl) rfl rfl rfl ?_
  refine doL_v (opV_max2 rfl rfl) rfl rfl rfl ?_
  refine doL_v (opV_min2 rfl rfl) rfl rfl rfl ?_
  refine doL_v (opV_assign rfl) rfl rfl rfl ?_
  refine doL_nil ?_
  refine post_then ?_
  refine doC_ret ?_
  refine post_rets (rs := [.tmp 2]) rfl (resC (resIs_tmp rfl) (resN)) (congrArg (vI) (?_ : _ = clampI a))
  first | rfl | (subst_vars; rfl) | (subst_vars; simp_all)
theorem rClamp (a : Int) (w : World) : Calls Tryz.prog 61 [.int .i64 a].toArray w (Rets (vI (clampI a)) (w)) := by
  refine calls_of_doC (n := 6) Tryz.func61 rfl rfl rfl ?_
  refine doC_seq ?_
  refine doC_region ?_
  refine doL_v (opV_assign rfl) rfl rfl rfl ?_
  refine doL_nil ?_
  refine post_then ?_
  refine doC_seq ?_
  refine doC_region ?_
  refine doL_v (opV_move rfl) rfl rfl rfl ?_
  refine doL_v (opV_min2 rfl rfl) rfl rfl rfl ?_
  refine doL_v (opV_max2 rfl rfl) rfl rfl rfl ?_
  refine doL_v (opV_assign rfl) rfl rfl rfl ?_
  refine doL_nil ?_
  refine post_then ?_
  refine doC_ret ?_
  refine post_rets (rs := [.tmp 2]) rfl (resC (resIs_tmp rfl) (resN)) (congrArg (vI) (?_ : _ = clampI a))
  unfold clampI; omega
theorem fShiftDown (a : Int) (k : Int) (h0 : 0 ≤ k ∧ k ≤ 62) (w : World) : Calls Tryz.prog 125 [.int .i64 a, .int .i64 k].toArray w (Rets (vI (a / 2 ^ (k).toNat)) (w)) := by
  refine calls_of_doC (n := 11) Tryz.func125 rfl rfl rfl ?_
  refine doC_seq ?_
  refine doC_region ?_
  refine doL_v (opV_assign rfl) rfl rfl rfl ?_
  refine doL_nil ?_
  refine post_then ?_
  refine doC_seq ?_
  refine doC_seq ?_
  refine doC_region ?_
  refine doL_v (opV_move rfl) rfl rfl rfl ?_
  refine doL_v (opV_lss rfl rfl) rfl rfl rfl ?_
  refine doL_nil ?_
  refine post_then ?_
  refine doC_cond_f rfl (by simp; omega) ?_
  refine doC_skip ?_
  refine post_then ?_
  refine doC_seq ?_
  refine doC_region ?_
  refine doL_v (opV_move rfl) rfl rfl rfl ?_
  refine doL_v (opV_move rfl) rfl rfl rfl ?_
  refine doL_v (opV_shr rfl rfl (by first | decide | omega) (shr_eq (by omega) (by omega))) rfl rfl rfl ?_
  refine doL_v (opV_assign rfl) rfl rfl rfl ?_
  refine doL_nil ?_
  refine post_then ?_
  refine doC_ret ?_
  refine post_rets (rs := [.tmp 4]) rfl (resC (resIs_tmp rfl) (resN)) (congrArg (vI) (?_ : _ = a / 2 ^ (k).toNat))
  first | rfl | (subst_vars; rfl) | (subst_vars; simp_all)
theorem fShiftUp (a : Int) (k : Int) (h0 : 0 ≤ k ∧ k ≤ 62) (ha : In64 a) (w : World) : Calls Tryz.prog 126 [.int .i64 a, .int .i64 k].toArray w (Rets (vI (ceilI a (2 ^ (k).toNat))) (w)) := by
  refine calls_of_doC (n := 20) Tryz.func126 rfl rfl rfl ?_
  refine doC_seq ?_
  refine doC_region ?_
  refine doL_v (opV_assign rfl) rfl rfl rfl ?_
  refine doL_nil ?_
  refine post_then ?_
  refine doC_seq ?_
  refine doC_seq ?_
  refine doC_region ?_
  refine doL_v (opV_move rfl) rfl rfl rfl ?_
  refine doL_v (opV_lss rfl rfl) rfl rfl rfl ?_
  refine doL_nil ?_
  refine post_then ?_
  refine doC_cond_f rfl (by simp; omega) ?_
  refine doC_skip ?_
  refine post_then ?_
  refine doC_seq ?_
  refine doC_region ?_
  refine doL_v (opV_move rfl) rfl rfl rfl ?_
  refine doL_v (opV_move rfl) rfl rfl rfl ?_
  refine doL_v (opV_shr rfl rfl (by first | decide | omega) (shr_eq (by omega) (by omega))) rfl rfl rfl ?_
  refine doL_v (opV_assign rfl) rfl rfl rfl ?_
  refine doL_nil ?_
  refine post_then ?_
  refine doC_seq ?_
  refine doC_seq ?_
  refine doC_region ?_
  refine doL_v (opV_move rfl) rfl rfl rfl ?_
  refine doL_v (opV_move rfl) rfl rfl rfl ?_
  refine doL_v (opV_shl rfl rfl (by first | decide | omega) (shl_eq ha (by omega) (by omega))) rfl rfl rfl ?_
  refine doL_v (opV_move rfl) rfl rfl rfl ?_
  refine doL_v (opV_neq rfl rfl) rfl rfl rfl ?_
  refine doL_nil ?_
  refine post_then ?_
  refine doC_cond rfl (fun hc16 => ?_) (fun hc16 => ?_)
  ·
    have h1 : ¬ a / 2 ^ k.toNat * 2 ^ k.toNat = a := by simpa using hc16
    have h2 := ceil_of_ne (Int.pow_pos (by decide)) h1
    refine doC_region ?_
    refine doL_v (opV_move rfl) rfl rfl rfl ?_
    refine doL_v (opV_add rfl rfl (i64_in (shiftUp_bnd ha h1))) rfl rfl rfl ?_
    refine doL_v (opV_assign rfl) rfl rfl rfl ?_
    refine doL_nil ?_
    refine post_then ?_
    refine doC_seq ?_
    refine doC_region ?_
    refine doL_v (opV_move rfl) rfl rfl rfl ?_
    refine doL_v (opV_assign rfl) rfl rfl rfl ?_
    refine doL_nil ?_
    refine post_then ?_
    refine doC_ret ?_
    refine post_rets (rs := [.tmp 4]) rfl (resC (resIs_tmp rfl) (resN)) (congrArg (vI) (?_ : _ = ceilI a (2 ^ (k).toNat)))
    exact h2
  ·
    have h1 : a / 2 ^ k.toNat * 2 ^ k.toNat = a := by simpa using hc16
    have h2 := ceil_of_mul (Int.pow_pos (by decide)) h1
    refine doC_skip ?_
    refine post_then ?_
    refine doC_seq ?_
    refine doC_region ?_
    refine doL_v (opV_move rfl) rfl rfl rfl ?_
    refine doL_v (opV_assign rfl) rfl rfl rfl ?_
    refine doL_nil ?_
    refine post_then ?_
    refine doC_ret ?_
    refine post_rets (rs := [.tmp 4]) rfl (resC (resIs_tmp rfl) (resN)) (congrArg (vI) (?_ : _ = ceilI a (2 ^ (k).toNat)))
    exact h2
theorem rFloor (a : Int) (b : Int) (ha : In64 a) (hb : 0 < b) (w : World) : Calls Tryz.prog 62 [.int .i64 a, .int .i64 b].toArray w (Rets (vI (a / b)) (w)) := by
  refine calls_of_doC (n := 16) Tryz.func62 rfl rfl rfl ?_
  refine doC_seq ?_
  have hq := tdiv_bnd ha hb
  refine doC_region ?_
  refine doL_v (opV_assign rfl) rfl rfl rfl ?_
  refine doL_nil ?_
  refine post_then ?_
  refine doC_seq ?_
  refine doC_region ?_
  refine doL_v (opV_move rfl) rfl rfl rfl ?_
  refine doL_v (opV_move rfl) rfl rfl rfl ?_
  refine doL_v (opV_quo rfl rfl (by first | decide | omega) (i64_in hq)) rfl rfl rfl ?_
  refine doL_v (opV_assign rfl) rfl rfl rfl ?_
  refine doL_nil ?_
  refine post_then ?_
  refine doC_seq ?_
  refine doC_seq ?_
  refine doC_region ?_
  refine doL_v (opV_move rfl) rfl rfl rfl ?_
  refine doL_v (opV_move rfl) rfl rfl rfl ?_
  refine doL_v (opV_rem rfl rfl (by first | decide | omega) rfl) rfl rfl rfl ?_
  refine doL_v (opV_lss rfl rfl) rfl rfl rfl ?_
  refine doL_nil ?_
  refine post_then ?_
  refine doC_cond rfl (fun hc12 => ?_) (fun hc12 => ?_)
  ·
    refine doC_region ?_
    refine doL_v (opV_move rfl) rfl rfl rfl ?_
    refine doL_v (opV_sub rfl rfl (i64_in (floor_bnd ha hb (by simpa using hc12)))) rfl rfl rfl ?_
    refine doL_v (opV_assign rfl) rfl rfl rfl ?_
    refine doL_nil ?_
    refine post_then ?_
    refine doC_seq ?_
    refine doC_region ?_
    refine doL_v (opV_move rfl) rfl rfl rfl ?_
    refine doL_v (opV_assign rfl) rfl rfl rfl ?_
    refine doL_nil ?_
    refine post_then ?_
    refine doC_ret ?_
    refine post_rets (rs := [.tmp 4]) rfl (resC (resIs_tmp rfl) (resN)) (congrArg (vI) (?_ : _ = a / b))
    exact floor_neg hb (by simpa using hc12)
  ·
    refine doC_skip ?_
    refine post_then ?_
    refine doC_seq ?_
    refine doC_region ?_
    refine doL_v (opV_move rfl) rfl rfl rfl ?_
    refine doL_v (opV_assign rfl) rfl rfl rfl ?_
    refine doL_nil ?_
    refine post_then ?_
    refine doC_ret ?_
    refine post_rets (rs := [.tmp 4]) rfl (resC (resIs_tmp rfl) (resN)) (congrArg (vI) (?_ : _ = a / b))
    exact floor_pos hb (by simpa using hc12)
theorem rCeil (a : Int) (b : Int) (ha : In64 a) (hb : 0 < b) (w : World) : Calls Tryz.prog 63 [.int .i64 a, .int .i64 b].toArray w (Rets (vI (ceilI a b)) (w)) := by
  refine calls_of_doC (n := 16) Tryz.func63 rfl rfl rfl ?_
  refine doC_seq ?_
  have hq := tdiv_bnd ha hb
  refine doC_region ?_
  refine doL_v (opV_assign rfl) rfl rfl rfl ?_
  refine doL_nil ?_
  refine post_then ?_
  refine doC_seq ?_
  refine doC_region ?_
  refine doL_v (opV_move rfl) rfl rfl rfl ?_
  refine doL_v (opV_move rfl) rfl rfl rfl ?_
  refine doL_v (opV_quo rfl rfl (by first | decide | omega) (i64_in hq)) rfl rfl rfl ?_
  refine doL_v (opV_assign rfl) rfl rfl rfl ?_
  refine doL_nil ?_
  refine post_then ?_
  refine doC_seq ?_
  refine doC_seq ?_
  refine doC_region ?_
  refine doL_v (opV_move rfl) rfl rfl rfl ?_
  refine doL_v (opV_move rfl) rfl rfl rfl ?_
  refine doL_v (opV_rem rfl rfl (by first | decide | omega) rfl) rfl rfl rfl ?_
  refine doL_v (opV_gtr rfl rfl) rfl rfl rfl ?_
  refine doL_nil ?_
  refine post_then ?_
  refine doC_cond rfl (fun hc12 => ?_) (fun hc12 => ?_)
  ·
    refine doC_region ?_
    refine doL_v (opV_move rfl) rfl rfl rfl ?_
    refine doL_v (opV_add rfl rfl (i64_in (ceil_bnd ha hb (by simpa using hc12)))) rfl rfl rfl ?_
    refine doL_v (opV_assign rfl) rfl rfl rfl ?_
    refine doL_nil ?_
    refine post_then ?_
    refine doC_seq ?_
    refine doC_region ?_
    refine doL_v (opV_move rfl) rfl rfl rfl ?_
    refine doL_v (opV_assign rfl) rfl rfl rfl ?_
    refine doL_nil ?_
    refine post_then ?_
    refine doC_ret ?_
    refine post_rets (rs := [.tmp 4]) rfl (resC (resIs_tmp rfl) (resN)) (congrArg (vI) (?_ : _ = ceilI a b))
    exact ceil_pos hb (by simpa using hc12)
  ·
    refine doC_skip ?_
    refine post_then ?_
    refine doC_seq ?_
    refine doC_region ?_
    refine doL_v (opV_move rfl) rfl rfl rfl ?_
    refine doL_v (opV_assign rfl) rfl rfl rfl ?_
    refine doL_nil ?_
    refine post_then ?_
    refine doC_ret ?_
    refine post_rets (rs := [.tmp 4]) rfl (resC (resIs_tmp rfl) (resN)) (congrArg (vI) (?_ : _ = ceilI a b))
    exact ceil_neg hb (by simpa using hc12)
theorem iLimited (lo : Int) (hi : Int) (w : World) : Calls Tryz.prog 111 [.int .i64 lo, .int .i64 hi].toArray w (Rets (iv (Iv.limited lo hi)) (w)) := by
  refine calls_of_doC (n := 10) Tryz.func111 rfl rfl rfl ?_
  refine doC_seq ?_
  refine doC_region ?_
  refine doL_alloc 4 ze44 rfl rfl rfl ?_; intro b4
  refine doL_nil ?_
  refine post_then ?_
  refine doC_seq ?_
  refine doC_region ?_
  refine doL_v (opV_move rfl) rfl rfl rfl ?_
  refine doL_vg (F := vI) (opV_call en120 rfl (fun w _ => fClamp _  w)) rfl rfl rfl ?_; intro r6 hr6
  refine doL_v (opV_move rfl) rfl rfl rfl ?_
  refine doL_vg (F := vI) (opV_call en120 rfl (fun w _ => fClamp _  w)) rfl rfl rfl ?_; intro r8 hr8
  refine doL_v (opV_build la44 rfl rfl) rfl rfl rfl ?_
  refine doL_store 4 ty44 rfl rfl rfl rfl rfl rfl rfl rfl ?_
  refine doL_nil ?_
  refine post_then ?_
  refine doC_ret ?_
  refine post_rets (rs := [.cell 4 44]) rfl (resC (resIs_cell 4 rfl rfl ty44 rfl) (resN)) (congrArg (iv) (?_ : ⟨_, _⟩ = Iv.limited lo hi))
  first | rfl | (subst_vars; rfl) | (subst_vars; simp_all)
theorem rLimited (lo : Int) (hi : Int) (w : World) : Calls Tryz.prog 60 [.int .i64 lo, .int .i64 hi].toArray w (Rets (iv (Iv.limited lo hi)) (w)) := by
  refine calls_of_doC (n := 10) Tryz.func60 rfl rfl rfl ?_
  refine doC_seq ?_
  refine doC_region ?_
  refine doL_alloc 4 ze44 rfl rfl rfl ?_; intro b4
  refine doL_nil ?_
  refine post_then ?_
  refine doC_seq ?_
  refine doC_region ?_
  refine doL_v (opV_move rfl) rfl rfl rfl ?_
  refine doL_vg (F := vI) (opV_call en61 rfl (fun w _ => rClamp _  w)) rfl rfl rfl ?_; intro r6 hr6
  refine doL_v (opV_move rfl) rfl rfl rfl ?_
  refine doL_vg (F := vI) (opV_call en61 rfl (fun w _ => rClamp _  w)) rfl rfl rfl ?_; intro r8 hr8
  refine doL_v (opV_build la44 rfl rfl) rfl rfl rfl ?_
  refine doL_store 4 ty44 rfl rfl rfl rfl rfl rfl rfl rfl ?_
  refine doL_nil ?_
  refine post_then ?_
  refine doC_ret ?_
  refine post_rets (rs := [.cell 4 44]) rfl (resC (resIs_cell 4 rfl rfl ty44 rfl) (resN)) (congrArg (iv) (?_ : ⟨_, _⟩ = Iv.limited lo hi))
  first | rfl | (subst_vars; rfl) | (subst_vars; simp_all)
theorem iOf (x : Int) (w : World) : Calls Tryz.prog 84 [.int .i64 x].toArray w (Rets (iv (Iv.of x)) (w)) := by
  refine calls_of_doC (n := 6) Tryz.func84 rfl rfl rfl ?_
  refine doC_seq ?_
  refine doC_region ?_
  refine doL_alloc 2 ze44 rfl rfl rfl ?_; intro b2
  refine doL_nil ?_
  refine post_then ?_
  refine doC_seq ?_
  refine doC_region ?_
  refine doL_v (opV_move rfl) rfl rfl rfl ?_
  refine doL_v (opV_move rfl) rfl rfl rfl ?_
  refine doL_vg (F := iv) (opV_call en111 rfl (fun w _ => iLimited _ _  w)) rfl rfl rfl ?_; intro r5 hr5
  refine doL_store 2 ty44 rfl rfl rfl rfl rfl rfl rfl rfl ?_
  refine doL_nil ?_
  refine post_then ?_
  refine doC_ret ?_
  refine post_rets (rs := [.cell 2 44]) rfl (resC (resIs_cell 2 rfl rfl ty44 rfl) (resN)) (congrArg (iv) (?_ : ⟨_, _⟩ = Iv.of x))
  first | rfl | (subst_vars; rfl) | (subst_vars; simp_all)
theorem rOf (x : Int) (w : World) : Calls Tryz.prog 34 [.int .i64 x].toArray w (Rets (iv (Iv.of x)) (w)) := by
  refine calls_of_doC (n := 8) Tryz.func34 rfl rfl rfl ?_
  refine doC_seq ?_
  refine doC_region ?_
  refine doL_alloc 2 ze44 rfl rfl rfl ?_; intro b2
  refine doL_nil ?_
  refine post_then ?_
  refine doC_seq ?_
  refine doC_region ?_
  refine doL_v (opV_move rfl) rfl rfl rfl ?_
  refine doL_vg (F := vI) (opV_call en61 rfl (fun w _ => rClamp _  w)) rfl rfl rfl ?_; intro r4 hr4
  refine doL_v (opV_move rfl) rfl rfl rfl ?_
  refine doL_vg (F := vI) (opV_call en61 rfl (fun w _ => rClamp _  w)) rfl rfl rfl ?_; intro r6 hr6
  refine doL_v (opV_build la44 rfl rfl) rfl rfl rfl ?_
  refine doL_store 2 ty44 rfl rfl rfl rfl rfl rfl rfl rfl ?_
  refine doL_nil ?_
  refine post_then ?_
  refine doC_ret ?_
  refine post_rets (rs := [.cell 2 44]) rfl (resC (resIs_cell 2 rfl rfl ty44 rfl) (resN)) (congrArg (iv) (?_ : ⟨_, _⟩ = Iv.of x))
  first | rfl | (subst_vars; rfl) | (subst_vars; simp_all)
theorem iNeg (a0 a1 : Int) (w : World) : Calls Tryz.prog 129 [.agg #[.int .i64 a0, .int .i64 a1]].toArray w (Rets (iv (Iv.neg (⟨a0, a1⟩ : Iv))) (w)) := by
  refine calls_of_doC (n := 14) Tryz.func129 rfl rfl rfl ?_
  refine doC_seq ?_
  refine doC_region ?_
  refine doL_box 1 rfl rfl rfl rfl ?_; intro b1
  refine doL_alloc 2 ze44 rfl rfl rfl ?_; intro b2
  refine doL_nil ?_
  refine post_then ?_
  refine doC_seq ?_
  refine doC_seq ?_
  refine doC_region ?_
  refine doL_v (opV_loadA 1 ty44 rfl rfl rfl) rfl rfl rfl ?_
  refine doL_vg (F := vB) (opV_call en51 rfl (fun w _ => iValid _ _  w)) rfl rfl rfl ?_; intro r4 hr4
  refine doL_v (opV_not rfl) rfl rfl rfl ?_
  refine doL_nil ?_
  refine post_then ?_
  refine doC_cond rfl (fun hc5 => ?_) (fun hc5 => ?_)
  ·
    simp only [Bool.not_eq_true'] at hc5
    refine doC_seq ?_
    refine doC_region ?_
    refine doL_v (opV_build la44 rfl rfl) rfl rfl rfl ?_
    refine doL_store 2 ty44 rfl rfl rfl rfl rfl rfl rfl rfl ?_
    refine doL_nil ?_
    refine post_then ?_
    refine doC_ret ?_
    refine post_then_ret ?_
    refine post_rets (rs := [.cell 2 44]) rfl (resC (resIs_cell 2 rfl rfl ty44 rfl) (resN)) (congrArg (iv) (?_ : ⟨_, _⟩ = Iv.neg (⟨a0, a1⟩ : Iv)))
    subst_vars; first | (simp_all [Iv.neg]; done) | (simp_all [Iv.neg] <;> omega) | grind [Iv.neg]
  ·
    simp only [Bool.not_eq_false'] at hc5
    have hv := valid_mk (hr4.symm.trans hc5)
    refine doC_skip ?_
    refine post_then ?_
    refine doC_seq ?_
    refine doC_region ?_
    refine doL_v (opV_fieldAddr fa44_1 rfl) rfl rfl rfl ?_
    refine doL_v (opV_load1 1 ty2 rfl rfl rfl) rfl rfl rfl ?_
    refine doL_v (opV_neg rfl (by first | exact neg_in ⟨by omega, by omega⟩ | rfl)) rfl rfl rfl ?_
    refine doL_v (opV_fieldAddr fa44_0 rfl) rfl rfl rfl ?_
    refine doL_v (opV_load1 1 ty2 rfl rfl rfl) rfl rfl rfl ?_
    refine doL_v (opV_neg rfl (by first | exact neg_in ⟨by omega, by omega⟩ | rfl)) rfl rfl rfl ?_
    refine doL_v (opV_build la44 rfl rfl) rfl rfl rfl ?_
    refine doL_store 2 ty44 rfl rfl rfl rfl rfl rfl rfl rfl ?_
    refine doL_nil ?_
    refine post_then ?_
    refine doC_ret ?_
    refine post_rets (rs := [.cell 2 44]) rfl (resC (resIs_cell 2 rfl rfl ty44 rfl) (resN)) (congrArg (iv) (?_ : ⟨_, _⟩ = Iv.neg (⟨a0, a1⟩ : Iv)))
    subst_vars; first | (simp_all [Iv.neg]; done) | (simp_all [Iv.neg] <;> omega) | grind [Iv.neg]
theorem iValid2 (a0 a1 : Int) (b0 b1 : Int) (w : World) : Calls Tryz.prog 118 [.agg #[.int .i64 a0, .int .i64 a1], .agg #[.int .i64 b0, .int .i64 b1]].toArray w (Rets (vB ((Iv.valid (⟨a0, a1⟩ : Iv) && Iv.valid (⟨b0, b1⟩ : Iv)))) (w)) := by
  refine calls_of_doC (n := 11) Tryz.func118 rfl rfl rfl ?_
  refine doC_seq ?_
  refine doC_region ?_
  refine doL_box 2 rfl rfl rfl rfl ?_; intro b2
  refine doL_box 3 rfl rfl rfl rfl ?_; intro b3
  refine doL_v (opV_assign rfl) rfl rfl rfl ?_
  refine doL_nil ?_
  refine post_then ?_
  refine doC_seq ?_
  refine doC_region ?_
  refine doL_v (opV_loadA 2 ty44 rfl rfl rfl) rfl rfl rfl ?_
  refine doL_vg (F := vB) (opV_call en51 rfl (fun w _ => iValid _ _  w)) rfl rfl rfl ?_; intro r6 hr6
  refine doL_v (opV_move rfl) rfl rfl rfl ?_
  refine doL_split 7 rfl (fun hg7 => ?_) (fun hg7 => ?_)
  ·
    refine doL_v (opV_loadA 3 ty44 rfl rfl rfl) rfl rfl rfl ?_
    refine doL_vg (F := vB) (opV_call en51 rfl (fun w _ => iValid _ _  w)) rfl rfl rfl ?_; intro r9 hr9
    refine doL_v (opV_pick_t rfl rfl rfl rfl) rfl rfl rfl ?_
    refine doL_v (opV_assign rfl) rfl rfl rfl ?_
    refine doL_nil ?_
    refine post_then ?_
    refine doC_ret ?_
    refine post_rets (rs := [.tmp 4]) rfl (resC (resIs_tmp rfl) (resN)) (congrArg (vB) (?_ : _ = (Iv.valid (⟨a0, a1⟩ : Iv) && Iv.valid (⟨b0, b1⟩ : Iv))))
    subst_vars; simp_all
  ·
    refine doL_skip rfl rfl rfl ?_
    refine doL_skip rfl rfl rfl ?_
    refine doL_v (opV_pick_f rfl rfl rfl rfl) rfl rfl rfl ?_
    refine doL_v (opV_assign rfl) rfl rfl rfl ?_
    refine doL_nil ?_
    refine post_then ?_
    refine doC_ret ?_
    refine post_rets (rs := [.tmp 4]) rfl (resC (resIs_tmp rfl) (resN)) (congrArg (vB) (?_ : _ = (Iv.valid (⟨a0, a1⟩ : Iv) && Iv.valid (⟨b0, b1⟩ : Iv))))
    subst_vars; simp_all
theorem rAdd (a0 a1 : Int) (b0 b1 : Int) (w : World) : Calls Tryz.prog 36 [.agg #[.int .i64 a0, .int .i64 a1], .agg #[.int .i64 b0, .int .i64 b1]].toArray w (Rets (iv (Iv.add (⟨a0, a1⟩ : Iv) (⟨b0, b1⟩ : Iv))) (w)) := by
  refine calls_of_doC (n := 25) Tryz.func36 rfl rfl rfl ?_
  refine doC_seq ?_
  refine doC_region ?_
  refine doL_box 2 rfl rfl rfl rfl ?_; intro b2
  refine doL_box 3 rfl rfl rfl rfl ?_; intro b3
  refine doL_alloc 4 ze44 rfl rfl rfl ?_; intro b4
  refine doL_nil ?_
  refine post_then ?_
  refine doC_seq ?_
  refine doC_seq ?_
  refine doC_region ?_
  refine doL_v (opV_loadA 2 ty44 rfl rfl rfl) rfl rfl rfl ?_
  refine doL_vg (F := vB) (opV_call en35 rfl (fun w _ => rValid _ _  w)) rfl rfl rfl ?_; intro r6 hr6
  refine doL_v (opV_not rfl) rfl rfl rfl ?_
  refine doL_v (opV_move rfl) rfl rfl rfl ?_
  refine doL_split 8 rfl (fun hg8 => ?_) (fun hg8 => ?_)
  ·
    refine doL_skip rfl rfl rfl ?_
    refine doL_skip rfl rfl rfl ?_
    refine doL_skip rfl rfl rfl ?_
    refine doL_v (opV_pick_t rfl rfl rfl rfl) rfl rfl rfl ?_
    refine doL_nil ?_
    refine post_then ?_
    refine doC_cond_t rfl (rfl) ?_
    refine doC_seq ?_
    refine doC_region ?_
    refine doL_v (opV_build la44 rfl rfl) rfl rfl rfl ?_
    refine doL_store 4 ty44 rfl rfl rfl rfl rfl rfl rfl rfl ?_
    refine doL_nil ?_
    refine post_then ?_
    refine doC_ret ?_
    refine post_then_ret ?_
    refine post_rets (rs := [.cell 4 44]) rfl (resC (resIs_cell 4 rfl rfl ty44 rfl) (resN)) (congrArg (iv) (?_ : ⟨_, _⟩ = Iv.add (⟨a0, a1⟩ : Iv) (⟨b0, b1⟩ : Iv)))
    subst_vars; first | (simp_all [Iv.add, Iv.limited]; done) | (simp_all [Iv.add, Iv.limited] <;> omega) | grind [Iv.add, Iv.limited]
  ·
    refine doL_v (opV_loadA 3 ty44 rfl rfl rfl) rfl rfl rfl ?_
    refine doL_vg (F := vB) (opV_call en35 rfl (fun w _ => rValid _ _  w)) rfl rfl rfl ?_; intro r10 hr10
    refine doL_v (opV_not rfl) rfl rfl rfl ?_
    refine doL_v (opV_pick_f rfl rfl rfl rfl) rfl rfl rfl ?_
    refine doL_nil ?_
    refine post_then ?_
    refine doC_cond rfl (fun hc12 => ?_) (fun hc12 => ?_)
    ·
      refine doC_seq ?_
      refine doC_region ?_
      refine doL_v (opV_build la44 rfl rfl) rfl rfl rfl ?_
      refine doL_store 4 ty44 rfl rfl rfl rfl rfl rfl rfl rfl ?_
      refine doL_nil ?_
      refine post_then ?_
      refine doC_ret ?_
      refine post_then_ret ?_
      refine post_rets (rs := [.cell 4 44]) rfl (resC (resIs_cell 4 rfl rfl ty44 rfl) (resN)) (congrArg (iv) (?_ : ⟨_, _⟩ = Iv.add (⟨a0, a1⟩ : Iv) (⟨b0, b1⟩ : Iv)))
      subst_vars; first | (simp_all [Iv.add, Iv.limited]; done) | (simp_all [Iv.add, Iv.limited] <;> omega) | grind [Iv.add, Iv.limited]
    ·
      refine doC_skip ?_
      refine post_then ?_
      refine doC_seq ?_
      have ha := valid_mk (hr6.symm.trans (by simpa using hg8))
      have hb := valid_mk (hr10.symm.trans (by simpa using hc12))
      refine doC_region ?_
      refine doL_v (opV_fieldAddr fa44_0 rfl) rfl rfl rfl ?_
      refine doL_v (opV_load1 2 ty2 rfl rfl rfl) rfl rfl rfl ?_
      refine doL_v (opV_fieldAddr fa44_0 rfl) rfl rfl rfl ?_
      refine doL_v (opV_load1 3 ty2 rfl rfl rfl) rfl rfl rfl ?_
      refine doL_v (opV_add rfl rfl (by first | exact i64_in ⟨by omega, by omega⟩ | rfl)) rfl rfl rfl ?_
      refine doL_v (opV_fieldAddr fa44_1 rfl) rfl rfl rfl ?_
      refine doL_v (opV_load1 2 ty2 rfl rfl rfl) rfl rfl rfl ?_
      refine doL_v (opV_fieldAddr fa44_1 rfl) rfl rfl rfl ?_
      refine doL_v (opV_load1 3 ty2 rfl rfl rfl) rfl rfl rfl ?_
      refine doL_v (opV_add rfl rfl (by first | exact i64_in ⟨by omega, by omega⟩ | rfl)) rfl rfl rfl ?_
      refine doL_vg (F := iv) (opV_call en60 rfl (fun w _ => rLimited _ _  w)) rfl rfl rfl ?_; intro r24 hr24
      refine doL_store 4 ty44 rfl rfl rfl rfl rfl rfl rfl rfl ?_
      refine doL_nil ?_
      refine post_then ?_
      refine doC_ret ?_
      refine post_rets (rs := [.cell 4 44]) rfl (resC (resIs_cell 4 rfl rfl ty44 rfl) (resN)) (congrArg (iv) (?_ : ⟨_, _⟩ = Iv.add (⟨a0, a1⟩ : Iv) (⟨b0, b1⟩ : Iv)))
      subst_vars; first | (simp_all [Iv.add, Iv.limited]; done) | (simp_all [Iv.add, Iv.limited] <;> omega) | grind [Iv.add, Iv.limited]
theorem iAdd (a0 a1 : Int) (b0 b1 : Int) (w : World) : Calls Tryz.prog 108 [.agg #[.int .i64 a0, .int .i64 a1], .agg #[.int .i64 b0, .int .i64 b1]].toArray w (Rets (iv (Iv.add (⟨a0, a1⟩ : Iv) (⟨b0, b1⟩ : Iv))) (w)) := by
  refine calls_of_doC (n := 21) Tryz.func108 rfl rfl rfl ?_
  refine doC_seq ?_
  refine doC_region ?_
  refine doL_box 2 rfl rfl rfl rfl ?_; intro b2
  refine doL_box 3 rfl rfl rfl rfl ?_; intro b3
  refine doL_alloc 4 ze44 rfl rfl rfl ?_; intro b4
  refine doL_nil ?_
  refine post_then ?_
  refine doC_seq ?_
  refine doC_seq ?_
  refine doC_region ?_
  refine doL_v (opV_loadA 2 ty44 rfl rfl rfl) rfl rfl rfl ?_
  refine doL_v (opV_loadA 3 ty44 rfl rfl rfl) rfl rfl rfl ?_
  refine doL_vg (F := vB) (opV_call en118 rfl (fun w _ => iValid2 _ _ _ _  w)) rfl rfl rfl ?_; intro r7 hr7
  refine doL_v (opV_not rfl) rfl rfl rfl ?_
  refine doL_nil ?_
  refine post_then ?_
  refine doC_cond rfl (fun hc8 => ?_) (fun hc8 => ?_)
  ·
    refine doC_seq ?_
    refine doC_region ?_
    refine doL_v (opV_build la44 rfl rfl) rfl rfl rfl ?_
    refine doL_store 4 ty44 rfl rfl rfl rfl rfl rfl rfl rfl ?_
    refine doL_nil ?_
    refine post_then ?_
    refine doC_ret ?_
    refine post_then_ret ?_
    refine post_rets (rs := [.cell 4 44]) rfl (resC (resIs_cell 4 rfl rfl ty44 rfl) (resN)) (congrArg (iv) (?_ : ⟨_, _⟩ = Iv.add (⟨a0, a1⟩ : Iv) (⟨b0, b1⟩ : Iv)))
    subst_vars; first | (simp_all [Iv.add, Iv.limited]; done) | (simp_all [Iv.add, Iv.limited] <;> omega) | grind [Iv.add, Iv.limited]
  ·
    refine doC_skip ?_
    refine post_then ?_
    refine doC_seq ?_
    have hv := hr7.symm.trans (by simpa using hc8)
    rw [Bool.and_eq_true] at hv
    have ha := valid_mk hv.1
    have hb := valid_mk hv.2
    refine doC_region ?_
    refine doL_v (opV_fieldAddr fa44_0 rfl) rfl rfl rfl ?_
    refine doL_v (opV_load1 2 ty2 rfl rfl rfl) rfl rfl rfl ?_
    refine doL_v (opV_fieldAddr fa44_0 rfl) rfl rfl rfl ?_
    refine doL_v (opV_load1 3 ty2 rfl rfl rfl) rfl rfl rfl ?_
    refine doL_v (opV_add rfl rfl (by first | exact i64_in ⟨by omega, by omega⟩ | rfl)) rfl rfl rfl ?_
    refine doL_v (opV_fieldAddr fa44_1 rfl) rfl rfl rfl ?_
    refine doL_v (opV_load1 2 ty2 rfl rfl rfl) rfl rfl rfl ?_
    refine doL_v (opV_fieldAddr fa44_1 rfl) rfl rfl rfl ?_
    refine doL_v (opV_load1 3 ty2 rfl rfl rfl) rfl rfl rfl ?_
    refine doL_v (opV_add rfl rfl (by first | exact i64_in ⟨by omega, by omega⟩ | rfl)) rfl rfl rfl ?_
    refine doL_vg (F := iv) (opV_call en111 rfl (fun w _ => iLimited _ _  w)) rfl rfl rfl ?_; intro r20 hr20
    refine doL_store 4 ty44 rfl rfl rfl rfl rfl rfl rfl rfl ?_
    refine doL_nil ?_
    refine post_then ?_
    refine doC_ret ?_
    refine post_rets (rs := [.cell 4 44]) rfl (resC (resIs_cell 4 rfl rfl ty44 rfl) (resN)) (congrArg (iv) (?_ : ⟨_, _⟩ = Iv.add (⟨a0, a1⟩ : Iv) (⟨b0, b1⟩ : Iv)))
    subst_vars; first | (simp_all [Iv.add, Iv.limited]; done) | (simp_all [Iv.add, Iv.limited] <;> omega) | grind [Iv.add, Iv.limited]
theorem iHull (a0 a1 : Int) (b0 b1 : Int) (w : World) : Calls Tryz.prog 141 [.agg #[.int .i64 a0, .int .i64 a1], .agg #[.int .i64 b0, .int .i64 b1]].toArray w (Rets (iv (Iv.hull (⟨a0, a1⟩ : Iv) (⟨b0, b1⟩ : Iv))) (w)) := by
  refine calls_of_doC (n := 21) Tryz.func141 rfl rfl rfl ?_
  refine doC_seq ?_
  refine doC_region ?_
  refine doL_box 2 rfl rfl rfl rfl ?_; intro b2
  refine doL_box 3 rfl rfl rfl rfl ?_; intro b3
  refine doL_alloc 4 ze44 rfl rfl rfl ?_; intro b4
  refine doL_nil ?_
  refine post_then ?_
  refine doC_seq ?_
  refine doC_seq ?_
  refine doC_region ?_
  refine doL_v (opV_loadA 2 ty44 rfl rfl rfl) rfl rfl rfl ?_
  refine doL_v (opV_loadA 3 ty44 rfl rfl rfl) rfl rfl rfl ?_
  refine doL_vg (F := vB) (opV_call en118 rfl (fun w _ => iValid2 _ _ _ _  w)) rfl rfl rfl ?_; intro r7 hr7
  refine doL_v (opV_not rfl) rfl rfl rfl ?_
  refine doL_nil ?_
  refine post_then ?_
  refine doC_cond rfl (fun hc8 => ?_) (fun hc8 => ?_)
  ·
    refine doC_seq ?_
    refine doC_region ?_
    refine doL_v (opV_build la44 rfl rfl) rfl rfl rfl ?_
    refine doL_store 4 ty44 rfl rfl rfl rfl rfl rfl rfl rfl ?_
    refine doL_nil ?_
    refine post_then ?_
    refine doC_ret ?_
    refine post_then_ret ?_
    refine post_rets (rs := [.cell 4 44]) rfl (resC (resIs_cell 4 rfl rfl ty44 rfl) (resN)) (congrArg (iv) (?_ : ⟨_, _⟩ = Iv.hull (⟨a0, a1⟩ : Iv) (⟨b0, b1⟩ : Iv)))
    subst_vars; first | (simp_all [Iv.hull]; done) | (simp_all [Iv.hull] <;> omega) | grind [Iv.hull]
  ·
    refine doC_skip ?_
    refine post_then ?_
    refine doC_seq ?_
    refine doC_region ?_
    refine doL_v (opV_fieldAddr fa44_0 rfl) rfl rfl rfl ?_
    refine doL_v (opV_load1 2 ty2 rfl rfl rfl) rfl rfl rfl ?_
    refine doL_v (opV_fieldAddr fa44_0 rfl) rfl rfl rfl ?_
    refine doL_v (opV_load1 3 ty2 rfl rfl rfl) rfl rfl rfl ?_
    refine doL_v (opV_min2 rfl rfl) rfl rfl rfl ?_
    refine doL_v (opV_fieldAddr fa44_1 rfl) rfl rfl rfl ?_
    refine doL_v (opV_load1 2 ty2 rfl rfl rfl) rfl rfl rfl ?_
    refine doL_v (opV_fieldAddr fa44_1 rfl) rfl rfl rfl ?_
    refine doL_v (opV_load1 3 ty2 rfl rfl rfl) rfl rfl rfl ?_
    refine doL_v (opV_max2 rfl rfl) rfl rfl rfl ?_
    refine doL_v (opV_build la44 rfl rfl) rfl rfl rfl ?_
    refine doL_store 4 ty44 rfl rfl rfl rfl rfl rfl rfl rfl ?_
    refine doL_nil ?_
    refine post_then ?_
    refine doC_ret ?_
    refine post_rets (rs := [.cell 4 44]) rfl (resC (resIs_cell 4 rfl rfl ty44 rfl) (resN)) (congrArg (iv) (?_ : ⟨_, _⟩ = Iv.hull (⟨a0, a1⟩ : Iv) (⟨b0, b1⟩ : Iv)))
    subst_vars; first | (simp_all [Iv.hull]; done) | (simp_all [Iv.hull] <;> omega) | grind [Iv.hull]
theorem iWidth (a0 a1 : Int) (w : World) : Calls Tryz.prog 140 [.agg #[.int .i64 a0, .int .i64 a1]].toArray w (Rets (vI (Iv.width (⟨a0, a1⟩ : Iv))) (w)) := by
  refine calls_of_doC (n := 11) Tryz.func140 rfl rfl rfl ?_
  refine doC_seq ?_
  refine doC_region ?_
  refine doL_box 1 rfl rfl rfl rfl ?_; intro b1
  refine doL_v (opV_assign rfl) rfl rfl rfl ?_
  refine doL_nil ?_
  refine post_then ?_
  refine doC_seq ?_
  refine doC_seq ?_
  refine doC_region ?_
  refine doL_v (opV_loadA 1 ty44 rfl rfl rfl) rfl rfl rfl ?_
  refine doL_vg (F := vB) (opV_call en51 rfl (fun w _ => iValid _ _  w)) rfl rfl rfl ?_; intro r4 hr4
  refine doL_v (opV_not rfl) rfl rfl rfl ?_
  refine doL_nil ?_
  refine post_then ?_
  refine doC_cond rfl (fun hc5 => ?_) (fun hc5 => ?_)
  ·
    refine doC_seq ?_
    refine doC_region ?_
    refine doL_v (opV_assign rfl) rfl rfl rfl ?_
    refine doL_nil ?_
    refine post_then ?_
    refine doC_ret ?_
    refine post_then_ret ?_
    refine post_rets (rs := [.tmp 2]) rfl (resC (resIs_tmp rfl) (resN)) (congrArg (vI) (?_ : _ = Iv.width (⟨a0, a1⟩ : Iv)))
    subst_vars; first | (simp_all [Iv.width]; done) | (simp_all [Iv.width] <;> omega) | grind [Iv.width]
  ·
    refine doC_skip ?_
    refine post_then ?_
    refine doC_seq ?_
    have ha := valid_mk (hr4.symm.trans (by simpa using hc5))
    refine doC_region ?_
    refine doL_v (opV_fieldAddr fa44_1 rfl) rfl rfl rfl ?_
    refine doL_v (opV_load1 1 ty2 rfl rfl rfl) rfl rfl rfl ?_
    refine doL_v (opV_fieldAddr fa44_0 rfl) rfl rfl rfl ?_
    refine doL_v (opV_load1 1 ty2 rfl rfl rfl) rfl rfl rfl ?_
    refine doL_v (opV_sub rfl rfl (by first | exact i64_in ⟨by omega, by omega⟩ | rfl)) rfl rfl rfl ?_
    refine doL_v (opV_assign rfl) rfl rfl rfl ?_
    refine doL_nil ?_
    refine post_then ?_
    refine doC_ret ?_
    refine post_rets (rs := [.tmp 2]) rfl (resC (resIs_tmp rfl) (resN)) (congrArg (vI) (?_ : _ = Iv.width (⟨a0, a1⟩ : Iv)))
    subst_vars; first | (simp_all [Iv.width]; done) | (simp_all [Iv.width] <;> omega) | grind [Iv.width]
theorem iHas (a0 a1 : Int) (x : Int) (w : World) : Calls Tryz.prog 147 [.agg #[.int .i64 a0, .int .i64 a1], .int .i64 x].toArray w (Rets (vB (Iv.has (⟨a0, a1⟩ : Iv) x)) (w)) := by
  refine calls_of_doC (n := 19) Tryz.func147 rfl rfl rfl ?_
  refine doC_seq ?_
  refine doC_region ?_
  refine doL_box 2 rfl rfl rfl rfl ?_; intro b2
  refine doL_v (opV_assign rfl) rfl rfl rfl ?_
  refine doL_nil ?_
  refine post_then ?_
  refine doC_seq ?_
  refine doC_region ?_
  refine doL_v (opV_loadA 2 ty44 rfl rfl rfl) rfl rfl rfl ?_
  refine doL_vg (F := vB) (opV_call en51 rfl (fun w _ => iValid _ _  w)) rfl rfl rfl ?_; intro r6 hr6
  refine doL_v (opV_move rfl) rfl rfl rfl ?_
  refine doL_split 7 rfl (fun hg7 => ?_) (fun hg7 => ?_)
  ·
    refine doL_v (opV_fieldAddr fa44_0 rfl) rfl rfl rfl ?_
    refine doL_v (opV_load1 2 ty2 rfl rfl rfl) rfl rfl rfl ?_
    refine doL_v (opV_move rfl) rfl rfl rfl ?_
    refine doL_v (opV_leq rfl rfl) rfl rfl rfl ?_
    refine doL_v (opV_pick_t rfl rfl rfl rfl) rfl rfl rfl ?_
    refine doL_v (opV_move rfl) rfl rfl rfl ?_
    refine doL_split 13 rfl (fun hg13 => ?_) (fun hg13 => ?_)
    ·
      refine doL_v (opV_move rfl) rfl rfl rfl ?_
      refine doL_v (opV_fieldAddr fa44_1 rfl) rfl rfl rfl ?_
      refine doL_v (opV_load1 2 ty2 rfl rfl rfl) rfl rfl rfl ?_
      refine doL_v (opV_leq rfl rfl) rfl rfl rfl ?_
      refine doL_v (opV_pick_t rfl rfl rfl rfl) rfl rfl rfl ?_
      refine doL_v (opV_assign rfl) rfl rfl rfl ?_
      refine doL_nil ?_
      refine post_then ?_
      refine doC_ret ?_
      refine post_rets (rs := [.tmp 4]) rfl (resC (resIs_tmp rfl) (resN)) (congrArg (vB) (?_ : _ = Iv.has (⟨a0, a1⟩ : Iv) x))
      subst_vars; first | (simp_all [Iv.has]; done) | (simp_all [Iv.has] <;> omega) | grind [Iv.has]
    ·
      refine doL_skip rfl rfl rfl ?_
      refine doL_skip rfl rfl rfl ?_
      refine doL_skip rfl rfl rfl ?_
      refine doL_skip rfl rfl rfl ?_
      refine doL_v (opV_pick_f rfl rfl rfl rfl) rfl rfl rfl ?_
      refine doL_v (opV_assign rfl) rfl rfl rfl ?_
      refine doL_nil ?_
      refine post_then ?_
      refine doC_ret ?_
      refine post_rets (rs := [.tmp 4]) rfl (resC (resIs_tmp rfl) (resN)) (congrArg (vB) (?_ : _ = Iv.has (⟨a0, a1⟩ : Iv) x))
      subst_vars; first | (simp_all [Iv.has]; done) | (simp_all [Iv.has] <;> omega) | grind [Iv.has]
  ·
    refine doL_skip rfl rfl rfl ?_
    refine doL_skip rfl rfl rfl ?_
    refine doL_skip rfl rfl rfl ?_
    refine doL_skip rfl rfl rfl ?_
    refine doL_v (opV_pick_f rfl rfl rfl rfl) rfl rfl rfl ?_
    refine doL_v (opV_move rfl) rfl rfl rfl ?_
    refine doL_skip rfl rfl rfl ?_
    refine doL_skip rfl rfl rfl ?_
    refine doL_skip rfl rfl rfl ?_
    refine doL_skip rfl rfl rfl ?_
    refine doL_v (opV_pick_f rfl rfl rfl rfl) rfl rfl rfl ?_
    refine doL_v (opV_assign rfl) rfl rfl rfl ?_
    refine doL_nil ?_
    refine post_then ?_
    refine doC_ret ?_
    refine post_rets (rs := [.tmp 4]) rfl (resC (resIs_tmp rfl) (resN)) (congrArg (vB) (?_ : _ = Iv.has (⟨a0, a1⟩ : Iv) x))
    subst_vars; first | (simp_all [Iv.has]; done) | (simp_all [Iv.has] <;> omega) | grind [Iv.has]
theorem rWithin (a0 a1 : Int) (b0 b1 : Int) (w : World) : Calls Tryz.prog 47 [.agg #[.int .i64 a0, .int .i64 a1], .agg #[.int .i64 b0, .int .i64 b1]].toArray w (Rets (vB (Iv.within (⟨a0, a1⟩ : Iv) (⟨b0, b1⟩ : Iv))) (w)) := by
  refine calls_of_doC (n := 25) Tryz.func47 rfl rfl rfl ?_
  refine doC_seq ?_
  refine doC_region ?_
  refine doL_box 2 rfl rfl rfl rfl ?_; intro b2
  refine doL_box 3 rfl rfl rfl rfl ?_; intro b3
  refine doL_v (opV_assign rfl) rfl rfl rfl ?_
  refine doL_nil ?_
  refine post_then ?_
  refine doC_seq ?_
  refine doC_region ?_
  refine doL_v (opV_loadA 2 ty44 rfl rfl rfl) rfl rfl rfl ?_
  refine doL_vg (F := vB) (opV_call en35 rfl (fun w _ => rValid _ _  w)) rfl rfl rfl ?_; intro r6 hr6
  refine doL_v (opV_move rfl) rfl rfl rfl ?_
  refine doL_split 7 rfl (fun hg7 => ?_) (fun hg7 => ?_)
  ·
    refine doL_v (opV_loadA 3 ty44 rfl rfl rfl) rfl rfl rfl ?_
    refine doL_vg (F := vB) (opV_call en35 rfl (fun w _ => rValid _ _  w)) rfl rfl rfl ?_; intro r9 hr9
    refine doL_v (opV_pick_t rfl rfl rfl rfl) rfl rfl rfl ?_
    refine doL_v (opV_move rfl) rfl rfl rfl ?_
    refine doL_split 11 rfl (fun hg11 => ?_) (fun hg11 => ?_)
    ·
      refine doL_v (opV_fieldAddr fa44_0 rfl) rfl rfl rfl ?_
      refine doL_v (opV_load1 3 ty2 rfl rfl rfl) rfl rfl rfl ?_
      refine doL_v (opV_fieldAddr fa44_0 rfl) rfl rfl rfl ?_
      refine doL_v (opV_load1 2 ty2 rfl rfl rfl) rfl rfl rfl ?_
      refine doL_v (opV_leq rfl rfl) rfl rfl rfl ?_
      refine doL_v (opV_pick_t rfl rfl rfl rfl) rfl rfl rfl ?_
      refine doL_v (opV_move rfl) rfl rfl rfl ?_
      refine doL_split 18 rfl (fun hg18 => ?_) (fun hg18 => ?_)
      ·
        refine doL_v (opV_fieldAddr fa44_1 rfl) rfl rfl rfl ?_
        refine doL_v (opV_load1 2 ty2 rfl rfl rfl) rfl rfl rfl ?_
        refine doL_v (opV_fieldAddr fa44_1 rfl) rfl rfl rfl ?_
        refine doL_v (opV_load1 3 ty2 rfl rfl rfl) rfl rfl rfl ?_
        refine doL_v (opV_leq rfl rfl) rfl rfl rfl ?_
        refine doL_v (opV_pick_t rfl rfl rfl rfl) rfl rfl rfl ?_
        refine doL_v (opV_assign rfl) rfl rfl rfl ?_
        refine doL_nil ?_
        refine post_then ?_
        refine doC_ret ?_
        refine post_rets (rs := [.tmp 4]) rfl (resC (resIs_tmp rfl) (resN)) (congrArg (vB) (?_ : _ = Iv.within (⟨a0, a1⟩ : Iv) (⟨b0, b1⟩ : Iv)))
        subst_vars; first | (simp_all [Iv.within]; done) | (simp_all [Iv.within] <;> omega) | grind [Iv.within]
      ·
        refine doL_skip rfl rfl rfl ?_
        refine doL_skip rfl rfl rfl ?_
        refine doL_skip rfl rfl rfl ?_
        refine doL_skip rfl rfl rfl ?_
        refine doL_skip rfl rfl rfl ?_
        refine doL_v (opV_pick_f rfl rfl rfl rfl) rfl rfl rfl ?_
        refine doL_v (opV_assign rfl) rfl rfl rfl ?_
        refine doL_nil ?_
        refine post_then ?_
        refine doC_ret ?_
        refine post_rets (rs := [.tmp 4]) rfl (resC (resIs_tmp rfl) (resN)) (congrArg (vB) (?_ : _ = Iv.within (⟨a0, a1⟩ : Iv) (⟨b0, b1⟩ : Iv)))
        subst_vars; first | (simp_all [Iv.within]; done) | (simp_all [Iv.within] <;> omega) | grind [Iv.within]
    ·
      refine doL_skip rfl rfl rfl ?_
      refine doL_skip rfl rfl rfl ?_
      refine doL_skip rfl rfl rfl ?_
      refine doL_skip rfl rfl rfl ?_
      refine doL_skip rfl rfl rfl ?_
      refine doL_v (opV_pick_f rfl rfl rfl rfl) rfl rfl rfl ?_
      refine doL_v (opV_move rfl) rfl rfl rfl ?_
      refine doL_skip rfl rfl rfl ?_
      refine doL_skip rfl rfl rfl ?_
      refine doL_skip rfl rfl rfl ?_
      refine doL_skip rfl rfl rfl ?_
      refine doL_skip rfl rfl rfl ?_
      refine doL_v (opV_pick_f rfl rfl rfl rfl) rfl rfl rfl ?_
      refine doL_v (opV_assign rfl) rfl rfl rfl ?_
      refine doL_nil ?_
      refine post_then ?_
      refine doC_ret ?_
      refine post_rets (rs := [.tmp 4]) rfl (resC (resIs_tmp rfl) (resN)) (congrArg (vB) (?_ : _ = Iv.within (⟨a0, a1⟩ : Iv) (⟨b0, b1⟩ : Iv)))
      subst_vars; first | (simp_all [Iv.within]; done) | (simp_all [Iv.within] <;> omega) | grind [Iv.within]
  ·
    refine doL_skip rfl rfl rfl ?_
    refine doL_skip rfl rfl rfl ?_
    refine doL_v (opV_pick_f rfl rfl rfl rfl) rfl rfl rfl ?_
    refine doL_v (opV_move rfl) rfl rfl rfl ?_
    refine doL_skip rfl rfl rfl ?_
    refine doL_skip rfl rfl rfl ?_
    refine doL_skip rfl rfl rfl ?_
    refine doL_skip rfl rfl rfl ?_
    refine doL_skip rfl rfl rfl ?_
    refine doL_v (opV_pick_f rfl rfl rfl rfl) rfl rfl rfl ?_
    refine doL_v (opV_move rfl) rfl rfl rfl ?_
    refine doL_skip rfl rfl rfl ?_
    refine doL_skip rfl rfl rfl ?_
    refine doL_skip rfl rfl rfl ?_
    refine doL_skip rfl rfl rfl ?_
    refine doL_skip rfl rfl rfl ?_
    refine doL_v (opV_pick_f rfl rfl rfl rfl) rfl rfl rfl ?_
    refine doL_v (opV_assign rfl) rfl rfl rfl ?_
    refine doL_nil ?_
    refine post_then ?_
    refine doC_ret ?_
    refine post_rets (rs := [.tmp 4]) rfl (resC (resIs_tmp rfl) (resN)) (congrArg (vB) (?_ : _ = Iv.within (⟨a0, a1⟩ : Iv) (⟨b0, b1⟩ : Iv)))
    subst_vars; first | (simp_all [Iv.within]; done) | (simp_all [Iv.within] <;> omega) | grind [Iv.within]
theorem rMul (a0 a1 : Int) (b0 b1 : Int) (w : World) : Calls Tryz.prog 88 [.agg #[.int .i64 a0, .int .i64 a1], .agg #[.int .i64 b0, .int .i64 b1]].toArray w (Rets (iv (Iv.mul (⟨a0, a1⟩ : Iv) (⟨b0, b1⟩ : Iv))) (w)) := by
  refine calls_of_doC (n := 51) Tryz.func88 rfl rfl rfl ?_
  refine doC_seq ?_
  refine doC_region ?_
  refine doL_box 2 rfl rfl rfl rfl ?_; intro b2
  refine doL_box 3 rfl rfl rfl rfl ?_; intro b3
  refine doL_alloc 4 ze44 rfl rfl rfl ?_; intro b4
  refine doL_nil ?_
  refine post_then ?_
  refine doC_seq ?_
  refine doC_seq ?_
  refine doC_region ?_
  refine doL_v (opV_loadA 2 ty44 rfl rfl rfl) rfl rfl rfl ?_
  refine doL_vg (F := vB) (opV_call en35 rfl (fun w _ => rValid _ _  w)) rfl rfl rfl ?_; intro r10 hr10
  refine doL_v (opV_not rfl) rfl rfl rfl ?_
  refine doL_v (opV_move rfl) rfl rfl rfl ?_
  refine doL_split 12 rfl (fun hg12 => ?_) (fun hg12 => ?_)
  ·
    refine doL_skip rfl rfl rfl ?_
    refine doL_skip rfl rfl rfl ?_
    refine doL_skip rfl rfl rfl ?_
    refine doL_v (opV_pick_t rfl rfl rfl rfl) rfl rfl rfl ?_
    refine doL_nil ?_
    refine post_then ?_
    refine doC_cond_t rfl (rfl) ?_
    refine doC_seq ?_
    refine doC_region ?_
    refine doL_v (opV_build la44 rfl rfl) rfl rfl rfl ?_
    refine doL_store 4 ty44 rfl rfl rfl rfl rfl rfl rfl rfl ?_
    refine doL_nil ?_
    refine post_then ?_
    refine doC_ret ?_
    refine post_then_ret ?_
    refine post_rets (rs := [.cell 4 44]) rfl (resC (resIs_cell 4 rfl rfl ty44 rfl) (resN)) (congrArg (iv) (?_ : ⟨_, _⟩ = Iv.mul (⟨a0, a1⟩ : Iv) (⟨b0, b1⟩ : Iv)))
    subst_vars; first | (simp_all [Iv.mul, Iv.limited, min4, max4]; done) | (simp_all [Iv.mul, Iv.limited, min4, max4] <;> omega) | grind [Iv.mul, Iv.limited, min4, max4]
  ·
    refine doL_v (opV_loadA 3 ty44 rfl rfl rfl) rfl rfl rfl ?_
    refine doL_vg (F := vB) (opV_call en35 rfl (fun w _ => rValid _ _  w)) rfl rfl rfl ?_; intro r14 hr14
    refine doL_v (opV_not rfl) rfl rfl rfl ?_
    refine doL_v (opV_pick_f rfl rfl rfl rfl) rfl rfl rfl ?_
    refine doL_nil ?_
    refine post_then ?_
    refine doC_cond rfl (fun hc16 => ?_) (fun hc16 => ?_)
    ·
      refine doC_seq ?_
      refine doC_region ?_
      refine doL_v (opV_build la44 rfl rfl) rfl rfl rfl ?_
      refine doL_store 4 ty44 rfl rfl rfl rfl rfl rfl rfl rfl ?_
      refine doL_nil ?_
      refine post_then ?_
      refine doC_ret ?_
      refine post_then_ret ?_
      refine post_rets (rs := [.cell 4 44]) rfl (resC (resIs_cell 4 rfl rfl ty44 rfl) (resN)) (congrArg (iv) (?_ : ⟨_, _⟩ = Iv.mul (⟨a0, a1⟩ : Iv) (⟨b0, b1⟩ : Iv)))
      subst_vars; first | (simp_all [Iv.mul, Iv.limited, min4, max4]; done) | (simp_all [Iv.mul, Iv.limited, min4, max4] <;> omega) | grind [Iv.mul, Iv.limited, min4, max4]
    ·
      refine doC_skip ?_
      refine post_then ?_
      refine doC_seq ?_
      have ha := valid_mk (hr10.symm.trans (by simpa using hg12))
      have hb := valid_mk (hr14.symm.trans (by simpa using hc16))
      have m1 := mul_bnd (a := a0) (b := b0) (by omega) (by omega)
      have m2 := mul_bnd (a := a0) (b := b1) (by omega) (by omega)
      have m3 := mul_bnd (a := a1) (b := b0) (by omega) (by omega)
      have m4 := mul_bnd (a := a1) (b := b1) (by omega) (by omega)
      refine doC_drawn 23 mo (by kernel_rfl) ?_
      simp only [List.take_succ_cons, List.take_zero, List.drop_succ_cons, List.drop_zero]
      refine doG_v (opV_fieldAddr fa44_0 rfl) rfl rfl rfl ?_
      refine doG_v (opV_load1 2 ty2 rfl rfl rfl) rfl rfl rfl ?_
      refine doG_v (opV_fieldAddr fa44_0 rfl) rfl rfl rfl ?_
      refine doG_v (opV_load1 3 ty2 rfl rfl rfl) rfl rfl rfl ?_
      refine doG_v (opV_mul rfl rfl (by first | exact i64_in ⟨by omega, by omega⟩ | rfl)) rfl rfl rfl ?_
      refine doG_v (opV_fieldAddr fa44_0 rfl) rfl rfl rfl ?_
      refine doG_v (opV_load1 2 ty2 rfl rfl rfl) rfl rfl rfl ?_
      refine doG_v (opV_fieldAddr fa44_1 rfl) rfl rfl rfl ?_
      refine doG_v (opV_load1 3 ty2 rfl rfl rfl) rfl rfl rfl ?_
      refine doG_v (opV_mul rfl rfl (by first | exact i64_in ⟨by omega, by omega⟩ | rfl)) rfl rfl rfl ?_
      refine doG_v (opV_fieldAddr fa44_1 rfl) rfl rfl rfl ?_
      refine doG_v (opV_load1 2 ty2 rfl rfl rfl) rfl rfl rfl ?_
      refine doG_v (opV_fieldAddr fa44_0 rfl) rfl rfl rfl ?_
      refine doG_v (opV_load1 3 ty2 rfl rfl rfl) rfl rfl rfl ?_
      refine doG_v (opV_mul rfl rfl (by first | exact i64_in ⟨by omega, by omega⟩ | rfl)) rfl rfl rfl ?_
      refine doG_v (opV_fieldAddr fa44_1 rfl) rfl rfl rfl ?_
      refine doG_v (opV_load1 2 ty2 rfl rfl rfl) rfl rfl rfl ?_
      refine doG_v (opV_fieldAddr fa44_1 rfl) rfl rfl rfl ?_
      refine doG_v (opV_load1 3 ty2 rfl rfl rfl) rfl rfl rfl ?_
      refine doG_v (opV_mul rfl rfl (by first | exact i64_in ⟨by omega, by omega⟩ | rfl)) rfl rfl rfl ?_
      refine doG_v (opV_assign rfl) rfl rfl rfl ?_
      refine doG_v (opV_assign rfl) rfl rfl rfl ?_
      refine doG_v (opV_assign rfl) rfl rfl rfl ?_
      refine doG_nil ?_
      refine tail_nil ?_
      refine doL_v (opV_assign rfl) rfl rfl rfl ?_
      refine doL_nil ?_
      refine post_then ?_
      refine doC_seq ?_
      refine doC_region ?_
      refine doL_v (opV_move rfl) rfl rfl rfl ?_
      refine doL_v (opV_move rfl) rfl rfl rfl ?_
      refine doL_v (opV_move rfl) rfl rfl rfl ?_
      refine doL_v (opV_move rfl) rfl rfl rfl ?_
      refine doL_v (opV_min4 rfl rfl rfl rfl) rfl rfl rfl ?_
      refine doL_vg (F := vI) (opV_call en62 rfl (fun w _ => rFloor _ _ (by unfold In64; omega) (by omega) w)) rfl rfl rfl ?_; intro r43 hr43
      refine doL_v (opV_move rfl) rfl rfl rfl ?_
      refine doL_v (opV_move rfl) rfl rfl rfl ?_
      refine doL_v (opV_move rfl) rfl rfl rfl ?_
      refine doL_v (opV_move rfl) rfl rfl rfl ?_
      refine doL_v (opV_max4 rfl rfl rfl rfl) rfl rfl rfl ?_
      refine doL_vg (F := vI) (opV_call en63 rfl (fun w _ => rCeil _ _ (by unfold In64; omega) (by omega) w)) rfl rfl rfl ?_; intro r49 hr49
      refine doL_vg (F := iv) (opV_call en60 rfl (fun w _ => rLimited _ _  w)) rfl rfl rfl ?_; intro r50 hr50
      refine doL_store 4 ty44 rfl rfl rfl rfl rfl rfl rfl rfl ?_
      refine doL_nil ?_
      refine post_then ?_
      refine doC_ret ?_
      refine post_rets (rs := [.cell 4 44]) rfl (resC (resIs_cell 4 rfl rfl ty44 rfl) (resN)) (congrArg (iv) (?_ : ⟨_, _⟩ = Iv.mul (⟨a0, a1⟩ : Iv) (⟨b0, b1⟩ : Iv)))
      subst_vars; first | (simp_all [Iv.mul, Iv.limited, min4, max4]; done) | (simp_all [Iv.mul, Iv.limited, min4, max4] <;> omega) | grind [Iv.mul, Iv.limited, min4, max4]
end Go.Proofs.YtonampcmhhhffaaGreat

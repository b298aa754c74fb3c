/- Part 4 of the texts behind the last one: rules and contracts. No condition. -/
import Derived.Test.YtonampcmhhhffaaKP3
namespace Go.Sx
open Go.RowKit
theorem rows_len {sz : Nat} : ∀ (rows : List (List Value)), (∀ r ∈ rows, r.length = sz) → rows.flatten.length = rows.length * sz
  | [], _ => by simp
  | r :: rows, h => by
    rw [List.flatten_cons, List.length_append, h r List.mem_cons_self, rows_len rows fun x hx => h x (List.mem_cons_of_mem _ hx), List.length_cons, Nat.add_mul]
    omega
theorem rows_set {sz : Nat} : ∀ (rows : List (List Value)) (j : Nat) (vs : List Value), (∀ r ∈ rows, r.length = sz) → j < rows.length → vs.length = sz →
    (rows.set j vs).flatten = rows.flatten.take (j * sz) ++ vs ++ rows.flatten.drop (j * sz + sz)
  | [], j, vs, _, hj, _ => by simp at hj
  | r :: rows, 0, vs, h, _, hv => by
    have hr := h r List.mem_cons_self
    simp only [List.set_cons_zero, List.flatten_cons, Nat.zero_mul, List.take_zero, List.nil_append, Nat.zero_add]
    rw [← hr, List.drop_left]
  | r :: rows, j + 1, vs, h, hj, hv => by
    have hr := h r List.mem_cons_self
    have ih := rows_set rows j vs (fun x hx => h x (List.mem_cons_of_mem _ hx)) (by simpa using hj) hv
    simp only [List.set_cons_succ, List.flatten_cons]
    rw [ih, show (j + 1) * sz = r.length + j * sz by rw [Nat.add_mul, hr]; omega, List.take_length_add_append, Nat.add_assoc, List.drop_length_add_append]
    simp
def RowsF (b sz e : Nat) (rows : List (List Value)) : World → Prop := fun w => (∀ r ∈ rows, r.length = sz) ∧ w.heap[b]? = some (.cells rows.flatten.toArray e)
theorem rowsF_dep (b sz e : Nat) (rows : List (List Value)) : Depends (· = b) (RowsF b sz e rows) := fun w w' h hF => by
  unfold RowsF at *
  rw [h b rfl]; exact hF
theorem rowsF_slc {b sz e : Nat} {rows : List (List Value)} (w : World) (h : RowsF b sz e rows w) : SlcIs sz (some ⟨b, 0, none⟩) rows w := fun j r hj =>
  ⟨h.1 r (List.mem_of_getElem? hj), b, 0, rfl, heap_lt h.2, fun k hk => by
    rw [cell_at h.2, Nat.zero_add]
    exact flat_get rows h.1 j r hj k hk⟩
section
variable {P : Program} {n : Nat} {w0 : Base} {ops : Array Oper} {Q : Exit → Act → World → Prop} {S : Slots} {H : Heap}
variable {ty : TypeId} {pos : String} {af : Array Edge} {g : Option (Nat × Bool)} {rest : List Oper}
theorem doL_storeRow {t : TypeId} {x y : Operand} {b e sz j : Nat} {rows : List (List Value)} {vs : List Value} (id : Nat) (hT : tyB P t true sz = true) (hR : lookR w0.R id = some ((· = b), RowsF b sz e rows))
    (hx : ev S x = some (pAt (some ⟨b, 0, none⟩) (j * sz))) (hy : ev S y = some (.agg vs.toArray)) (hj : j < rows.length) (hv : Nat.beq vs.length sz = true) (h1 : vs.all Value.oneCell' = true)
    (hw : wantedS ops S ⟨none, .store t x y, ty, pos, af, g⟩ = some true) (hu : (updR w0.R id (· = b) (RowsF b sz e (rows.set j vs))).isSome = true)
    (next : ∀ R', updR w0.R id (· = b) (RowsF b sz e (rows.set j vs)) = some R' → DoL P n ⟨w0.w, R'⟩ ops Q rest S H) :
    DoL P n w0 ops Q (⟨none, .store t x y, ty, pos, af, g⟩ :: rest) S H := by
  intro a w f k
  unfold wpList
  rw [wanted_fits f hw, if_pos rfl]
  refine .inl ?_
  obtain ⟨R', hR'⟩ := Option.isSome_iff_exists.1 hu
  have hF : RowsF b sz e rows w := holds_r hR _ _ k
  have hvs := Nat.eq_of_beq_eq_true hv
  have hlen : j * sz + sz ≤ rows.flatten.length := by
    rw [rows_len rows hF.1]
    have := Nat.mul_le_mul_right sz (show j + 1 ≤ rows.length from hj)
    rw [Nat.add_mul] at this
    omega
  have hst := run_storeCells_at P b (0 + j * sz) e vs 0 rows.flatten.toArray w hF.2 (by simp; simp at hlen; omega) (fun u hu => List.all_eq_true.1 h1 u hu)
  have hx' : ev S x = some (.pointer (some ⟨b, 0 + j * sz, none⟩)) := hx
  have hrun : (execOp a.eval ⟨none, .store t x y, ty, pos, af, g⟩).run P w = .ok .skip (w.setRow b (rows.set j vs).flatten.toArray) := by
    rw [rows_set rows j vs hF.1 hj hvs]
    simp only [Nat.add_zero, Nat.zero_add, hvs] at hst
    have hx2 : ev S x = some (.pointer (some ⟨b, j * sz, none⟩)) := by rw [hx', Nat.zero_add]
    have hc : (Value.agg vs.toArray).cells = vs.toArray := rfl
    simp [execOp, f.ev hx2, f.ev hy, Instr.storeAt, Instr.sureAddr, storeVar, tyB_size hT, hc, hvs, hst]
  unfold Oper.wp
  rw [hrun]
  refine next R' hR' _ _ f (k.swap hR (GrowB.set b w _) (fun _ h => h) (rowsF_dep _ _ _ _) ⟨fun r hr => ?_, setRow_heap w b _ _ e _ hF.2⟩ hR')
  rcases List.mem_or_eq_of_mem_set hr with h | h
  · exact hF.1 r h
  · rw [h]; exact hvs
end
end Go.Sx
namespace Go.Sx
open Go.RowKit
theorem made_rows {zs : List Value} {sz m : Nat} (hz : zs.length = sz) (h0 : 0 < sz) : madeCells zs.toArray (m * sz) = (List.replicate m zs).flatten.toArray := by
  have hall : ∀ r ∈ List.replicate m zs, r.length = sz := fun r hr => by rw [List.eq_of_mem_replicate hr, hz]
  have hlen := rows_len (sz := sz) (List.replicate m zs) hall
  rw [List.length_replicate] at hlen
  apply Array.ext
  · rw [size_madeCells]; simp only [List.size_toArray]; exact hlen.symm
  · intro k h1 h2
    rw [size_madeCells] at h1
    have hd : k / sz < m := (Nat.div_lt_iff_lt_mul h0).2 h1
    have hm := Nat.mod_lt k h0
    have hg := flat_get (sz := sz) (List.replicate m zs) hall (k / sz) zs (by simp [hd]) (k % sz) hm
    rw [show k / sz * sz + k % sz = k by rw [Nat.mul_comm]; exact Nat.div_add_mod k sz] at hg
    have e1 : (madeCells zs.toArray (m * sz))[k]? = zs[k % sz]? := by
      simp only [madeCells, Array.getElem?_map, List.size_toArray, hz]
      rw [Array.getElem?_range, if_pos h1]
      simp [hz, hm]
    have e2 : (List.replicate m zs).flatten.toArray[k]? = zs[k % sz]? := by rw [List.getElem?_toArray]; exact hg
    have := e1.trans e2.symm
    rw [Array.getElem?_eq_getElem (by rw [size_madeCells]; exact h1), Array.getElem?_eq_getElem h2] at this
    exact Option.some.inj this
def makeB (P : Program) (t e sz bytes : Nat) (zs : List Value) : Prop := P.underlying t = some (.slice e) ∧ ∃ i z, P.info? e = some i ∧ i.zero = some z ∧ i.size = sz ∧ i.bytes = bytes ∧ z.cells.toList = zs ∧ zs.length = sz ∧ 0 < sz
section
variable {P : Program} {n : Nat} {w0 : Base} {ops : Array Oper} {Q : Exit → Act → World → Prop} {S : Slots} {H : Heap}
variable {d : Nat} {ty : TypeId} {pos : String} {af : Array Edge} {g : Option (Nat × Bool)} {rest : List Oper}
theorem makeB_of {t e sz bytes : Nat} {z : Value} (hA : appB P t e sz bytes = true) (hz : zeroIs P e z) : makeB P t e sz bytes z.cells.toList := by
  unfold appB at hA
  unfold zeroIs at hz
  cases hu : P.underlying t with
  | none => simp [hu] at hA
  | some ds =>
    cases ds <;> simp [hu] at hA
    rename_i e'
    cases hi : P.info? e with
    | none => simp [hi] at hA
    | some i =>
      simp only [hi] at hA hz
      simp at hz
      simp only [hz, Bool.and_eq_true, beq_iff_eq] at hA
      obtain ⟨⟨⟨⟨rfl, h2⟩, h3⟩, h4⟩, h5⟩ := hA
      exact ⟨hu, i, z, hi, hz, h2, h3, rfl, by simpa using h5, by simpa using h4⟩
theorem doL_make {t e sz bytes m : Nat} {zs : List Value} {x : Operand} (id : Nat) (hB : makeB P t e sz bytes zs) (hx : ev S x = some (.int .i64 (m : Int))) (hm : m * bytes ≤ 281474976710656) (h63 : m ≤ 1000000)
    (hw : wantedS ops S ⟨some d, .makeSlice t x x, ty, pos, af, g⟩ = some true) (hn : Nat.blt d n = true)
    (next : ∀ b, DoL P n ⟨w0.w, (id, (· = b), RowsF b sz e (List.replicate m zs)) :: w0.R⟩ ops Q rest ((d, .slice (some ⟨b, 0, none⟩) m m) :: S) H) : DoL P n w0 ops Q (⟨some d, .makeSlice t x x, ty, pos, af, g⟩ :: rest) S H := by
  intro a w fi k
  unfold wpList
  rw [wanted_fits fi hw, if_pos rfl]
  refine .inl ?_
  unfold Oper.wp
  obtain ⟨ht, i, z, hi, hz, rfl, rfl, rfl, hlen, h0⟩ := hB
  have hrun : (execOp (evD S) ⟨some d, .makeSlice t x x, ty, pos, af, g⟩).run P w = .ok (.value (.slice (some ⟨w.heap.size, 0, none⟩) m m)) (w.alloc (.cells (List.replicate m z.cells.toList).flatten.toArray e)) := by
    have := run_make (P := P) w t e i z ht hi hz .i64 .i64 (m : Int) (m : Int) (by omega) (by omega) (by rw [Int.mul_comm, ← Int.natCast_mul]; exact Int.ofNat_le.2 hm) (by omega)
    simp only [Int.toNat_natCast] at this
    rw [show z.cells = z.cells.toList.toArray from rfl, made_rows hlen h0] at this
    simp [execOp, evD_of hx, this]
  rw [exec_fits fi (by simp [knownB, Op.operands, hx]) rfl, hrun]
  simp only [Oper.upon]
  refine next w.heap.size _ _ (fi.put hn _) (k.tell ((Grow.refl w).alloc _) id (rowsF_dep _ _ _ _) (fun q hq => by subst hq; exact ⟨Nat.le_refl _, by show w.heap.size < (w.heap.push _).size; simp⟩) ⟨fun r hr => ?_, by show (w.heap.push _)[w.heap.size]? = _; simp⟩)
  rw [List.eq_of_mem_replicate hr]; exact hlen
end
end Go.Sx
namespace Go.Sx
def pc (p : Po) : List Value := [.int .i64 p.r.x.x.lo, .int .i64 p.r.x.x.hi, .int .i64 p.r.x.y.lo, .int .i64 p.r.x.y.hi, .int .i64 p.r.x.z.lo, .int .i64 p.r.x.z.hi, .int .i64 p.r.y.x.lo, .int .i64 p.r.y.x.hi, .int .i64 p.r.y.y.lo, .int .i64 p.r.y.y.hi, .int .i64 p.r.y.z.lo, .int .i64 p.r.y.z.hi, .int .i64 p.r.z.x.lo, .int .i64 p.r.z.x.hi, .int .i64 p.r.z.y.lo, .int .i64 p.r.z.y.hi, .int .i64 p.r.z.z.lo, .int .i64 p.r.z.z.hi, .int .i64 p.t.x.lo, .int .i64 p.t.x.hi, .int .i64 p.t.y.lo, .int .i64 p.t.y.hi, .int .i64 p.t.z.lo, .int .i64 p.t.z.hi]
def zRow : List Value := List.replicate 24 (.int .i64 0)
def lkP (ps : List Po) (j : J) (a : Iv) : Po := if j.parent = -1 then jPose j.kind j.off a else Po.mul (ps.getD j.parent.toNat Po.rest) (jPose j.kind j.off a)
def lks (js : List J) (bx : List Iv) : Nat → List Po
  | 0 => []
  | k + 1 => match js[k]?, bx[k]? with
    | some j, some a => lks js bx k ++ [lkP (lks js bx k) j a]
    | _, _ => lks js bx k
theorem lks_succ {js : List J} {bx : List Iv} {k : Nat} {j : J} {a : Iv} (h1 : js[k]? = some j) (h2 : bx[k]? = some a) : lks js bx (k + 1) = lks js bx k ++ [lkP (lks js bx k) j a] := by
  simp only [lks, h1, h2]
def lkR (ps : List Po) (m : Nat) : List (List Value) := ps.map pc ++ List.replicate m zRow
theorem lkR_set {ps : List Po} {m : Nat} (v : List Value) : (lkR ps (m + 1)).set ps.length v = ps.map pc ++ v :: List.replicate m zRow := by
  unfold lkR
  rw [List.set_append_right _ _ (by simp)]
  simp [List.replicate_succ]
theorem lkR_set2 {ps : List Po} {m : Nat} (u v : List Value) : (ps.map pc ++ u :: List.replicate m zRow).set ps.length v = ps.map pc ++ v :: List.replicate m zRow := by
  rw [List.set_append_right _ _ (by simp)]
  simp
theorem lkR_done {ps : List Po} {m : Nat} (p : Po) : ps.map pc ++ pc p :: List.replicate m zRow = lkR (ps ++ [p]) m := by
  unfold lkR
  simp
theorem lkR_at {ps : List Po} {m i : Nat} {u : List Value} (h : i < ps.length) : (ps.map pc ++ u :: List.replicate m zRow)[i]? = some (pc (ps.getD i Po.rest)) := by
  rw [List.getElem?_append_left (by simpa using h), List.getElem?_map]
  simp [List.getD_eq_getElem?_getD, h]
theorem lkR_me {ps : List Po} {m : Nat} {u : List Value} : (ps.map pc ++ u :: List.replicate m zRow)[ps.length]? = some u := by
  rw [List.getElem?_append_right (by simp)]
  simp
end Go.Sx
namespace Go.Sx
theorem lks_len {js : List J} {bx : List Iv} : ∀ n, n ≤ js.length → n ≤ bx.length → (lks js bx n).length = n
  | 0, _, _ => rfl
  | n + 1, h1, h2 => by
    have e1 : js[n]? = some js[n] := List.getElem?_eq_getElem (by omega)
    have e2 : bx[n]? = some bx[n] := List.getElem?_eq_getElem (by omega)
    rw [lks_succ e1 e2, List.length_append, lks_len n (by omega) (by omega)]
    rfl
end Go.Sx
namespace Go.Sx
theorem jsOf_get (L : List Int) (i : Nat) : ∀ (n k : Nat) (j : J), (jsOf L i n).1[k]? = some j → ∃ p, j = (jointOf L p (k : Int)).1
  | 0, k, j, h => by simp [jsOf] at h
  | n + 1, k, j, h => by
    have hl := jsOf_len L i n
    rcases Nat.lt_or_ge k n with hk | hk
    · exact jsOf_get L i n k j (by rw [← h]; show _ = ((jsOf L i n).1 ++ [_])[k]?; rw [List.getElem?_append_left (by omega)])
    · rcases Nat.lt_or_ge n k with hk2 | hk2
      · exfalso
        have := (List.getElem?_eq_some_iff.1 h).1
        rw [jsOf_len] at this
        omega
      · obtain rfl : k = n := by omega
        refine ⟨(jsOf L i k).2, ?_⟩
        have h' : ((jsOf L i k).1 ++ [(jointOf L (jsOf L i k).2 (k : Int)).1])[k]? = some j := h
        rw [List.getElem?_append_right (by omega), hl] at h'
        simp at h'
        exact h'.symm
theorem jointOf_same (L : List Int) (p : Nat) (k : Int) : (jointOf L p k).1.name = letterB k ∧ (jointOf L p k).1.kind = kindOf (srcR L (p + 2) 8) ∧ (jointOf L p k).1.parent = (jBase L p k).parent ∧ (jointOf L p k).1.off = (jBase L p k).off ∧
    (jointOf L p k).1.weight = 1 + srcR L p 4 ∧ (jointOf L p k).1.speed = 65536 ∧ (jointOf L p k).1.accel = 65536 + srcR L (p + 1) 3 ∧ (jointOf L p k).1.torque = 327680 := by
  unfold jointOf
  split
  · exact ⟨rfl, rfl, rfl, rfl, rfl, rfl, rfl, rfl⟩
  · split <;> exact ⟨rfl, rfl, rfl, rfl, rfl, rfl, rfl, rfl⟩
theorem kindOf_b (x : Int) : 0 ≤ kindOf x ∧ kindOf x ≤ 6 := by
  unfold kindOf; repeat' split
  all_goals omega
theorem bxs_valid {l : List Int} {js : List J} (hj : ∀ j ∈ js, JB j) : ∀ k, ∀ a ∈ (bxs l js k).1, Iv.valid a = true
  | 0, a, h => by cases h
  | k + 1, a, h => by
    cases hk : js[k]? with
    | none => simp only [bxs, hk] at h; exact bxs_valid hj k a h
    | some j =>
      simp only [bxs, hk] at h
      rcases List.mem_append.1 h with h | h
      · exact bxs_valid hj k a h
      · obtain rfl := List.mem_singleton.1 h
        obtain ⟨b1, b2, b3⟩ := hj j (List.mem_of_getElem? hk)
        have r := srcR_bnd l (bxs l js k).2 (k := j.hi - j.lo + 1) (by omega)
        have hx : 0 ≤ (bxW l ((bxs l js k).2 + 1) (j.hi - j.lo)).1 := by
          have a1 := srcR_bnd l ((bxs l js k).2 + 1 + 1) (k := 3000) (by decide)
          have a2 := srcR_bnd l ((bxs l js k).2 + 1 + 1) (k := 200) (by decide)
          unfold bxW
          repeat' split
          all_goals (dsimp only; omega)
        unfold Iv.valid bxLo
        simp only [Bool.and_eq_true, decide_eq_true_eq]
        omega
theorem msOf_get (L : List Int) (i : Nat) : ∀ n, ∀ m ∈ msOf L i n, (0 ≤ m.link ∧ m.link < nJ L i) ∧ (1 ≤ m.mass ∧ m.mass ≤ 65536) ∧ (-4194304 ≤ m.p.x ∧ m.p.x ≤ 4194304) ∧ (-4194304 ≤ m.p.y ∧ m.p.y ≤ 4194304) ∧ (-4194304 ≤ m.p.z ∧ m.p.z ≤ 4194304)
  | 0, m, h => by cases h
  | n + 1, m, h => by
    rcases List.mem_append.1 (show m ∈ msOf L i n ++ [_] from h) with h | h
    · exact msOf_get L i n m h
    · obtain rfl := List.mem_singleton.1 h
      have hn := nJ_b L i
      have a := srcR_bnd L (mQ L i + 1 + 4 * n) (k := (nJ L i : Int)) (by omega)
      have b := srcR_bnd L (mQ L i + 1 + 4 * n + 1) (k := 9000) (by decide)
      have c := srcR_bnd L (mQ L i + 1 + 4 * n + 2) (k := 2 * 3 + 1) (by decide)
      have d := srcR_bnd L (mQ L i + 1 + 4 * n + 3) (k := 2 * 2 + 1) (by decide)
      dsimp only
      unfold srcS
      omega
end Go.Sx
namespace Go.Proofs.Ytonampcmhhhffaa
open Go.Sx
theorem fa23_0 : fieldB Try.prog 23 0 0 = true := by kernel_rfl
theorem ty2 : tyB Try.prog 2 false 1 = true := by kernel_rfl
theorem fa23_1 : fieldB Try.prog 23 1 1 = true := by kernel_rfl
theorem ze23 : zeroIs Try.prog 23 (.agg #[.int .i64 0, .int .i64 0]) := by unfold zeroIs; kernel_rfl
theorem en146 : Enters Try.prog 146 := enters_of Try.func146 (by kernel_rfl) (by kernel_rfl)
theorem la23 : layoutOf Try.prog 23 = some ([.int .i64 0, .int .i64 0], [(0, 1), (1, 1)]) := by kernel_rfl
theorem ty23 : tyB Try.prog 23 true 2 = true := by kernel_rfl
theorem en86 : Enters Try.prog 86 := enters_of Try.func86 (by kernel_rfl) (by kernel_rfl)
theorem en116 : Enters Try.prog 116 := enters_of Try.func116 (by kernel_rfl) (by kernel_rfl)
theorem en75 : Enters Try.prog 75 := enters_of Try.func75 (by kernel_rfl) (by kernel_rfl)
theorem en80 : Enters Try.prog 80 := enters_of Try.func80 (by kernel_rfl) (by kernel_rfl)
theorem en122 : Enters Try.prog 122 := enters_of Try.func122 (by kernel_rfl) (by kernel_rfl)
theorem en120 : Enters Try.prog 120 := enters_of Try.func120 (by kernel_rfl) (by kernel_rfl)
theorem mo : Try.prog.follows .mixedOrders = true := by kernel_rfl
theorem en123 : Enters Try.prog 123 := enters_of Try.func123 (by kernel_rfl) (by kernel_rfl)
theorem en124 : Enters Try.prog 124 := enters_of Try.func124 (by kernel_rfl) (by kernel_rfl)
theorem iValid (a0 a1 : Int) (w : World) : Calls Try.prog 75 [.agg #[.int .i64 a0, .int .i64 a1]].toArray w (Rets (vB (Iv.valid (⟨a0, a1⟩ : Iv))) (w)) := by
  refine calls_of_doC (n := 18) Try.func75 rfl rfl rfl ?_
  refine doC_seq ?_
  refine doC_region ?_
  refine doL_box 1 rfl rfl rfl rfl ?_; intro b1
  refine doL_v (opV_assign rfl) rfl rfl rfl ?_
  refine doL_nil ?_
  refine post_then ?_
  refine doC_seq ?_
  refine doC_region ?_
  refine doL_v (opV_fieldAddr fa23_0 rfl) rfl rfl rfl ?_
  refine doL_v (opV_load1 1 ty2 rfl rfl rfl) rfl rfl rfl ?_
  refine doL_v (opV_leq rfl rfl) rfl rfl rfl ?_
  refine doL_v (opV_move rfl) rfl rfl rfl ?_
  refine doL_split 6 rfl (fun hg6 => ?_) (fun hg6 => ?_)
  ·
    refine doL_v (opV_fieldAddr fa23_0 rfl) rfl rfl rfl ?_
    refine doL_v (opV_load1 1 ty2 rfl rfl rfl) rfl rfl rfl ?_
    refine doL_v (opV_fieldAddr fa23_1 rfl) rfl rfl rfl ?_
    refine doL_v (opV_load1 1 ty2 rfl rfl rfl) rfl rfl rfl ?_
    refine doL_v (opV_leq rfl rfl) rfl rfl rfl ?_
    refine doL_v (opV_pick_t rfl rfl rfl rfl) rfl rfl rfl ?_
    refine doL_v (opV_move rfl) rfl rfl rfl ?_
    refine doL_split 13 rfl (fun hg13 => ?_) (fun hg13 => ?_)
    ·
      refine doL_v (opV_fieldAddr fa23_1 rfl) rfl rfl rfl ?_
      refine doL_v (opV_load1 1 ty2 rfl rfl rfl) rfl rfl rfl ?_
      refine doL_v (opV_leq rfl rfl) rfl rfl rfl ?_
      refine doL_v (opV_pick_t rfl rfl rfl rfl) rfl rfl rfl ?_
      refine doL_v (opV_assign rfl) rfl rfl rfl ?_
      refine doL_nil ?_
      refine post_then ?_
      refine doC_ret ?_
      refine post_rets (rs := [.tmp 2]) rfl (resC (resIs_tmp rfl) (resN)) (congrArg (vB) (?_ : _ = Iv.valid (⟨a0, a1⟩ : Iv)))
      simp only [Iv.valid, *, Bool.and_false, Bool.and_true, Bool.true_and, Bool.false_and]
    ·
      refine doL_skip rfl rfl rfl ?_
      refine doL_skip rfl rfl rfl ?_
      refine doL_skip rfl rfl rfl ?_
      refine doL_v (opV_pick_f rfl rfl rfl rfl) rfl rfl rfl ?_
      refine doL_v (opV_assign rfl) rfl rfl rfl ?_
      refine doL_nil ?_
      refine post_then ?_
      refine doC_ret ?_
      refine post_rets (rs := [.tmp 2]) rfl (resC (resIs_tmp rfl) (resN)) (congrArg (vB) (?_ : _ = Iv.valid (⟨a0, a1⟩ : Iv)))
      simp only [Iv.valid, *, Bool.and_false, Bool.and_true, Bool.true_and, Bool.false_and]
  ·
    refine doL_skip rfl rfl rfl ?_
    refine doL_skip rfl rfl rfl ?_
    refine doL_skip rfl rfl rfl ?_
    refine doL_skip rfl rfl rfl ?_
    refine doL_skip rfl rfl rfl ?_
    refine doL_v (opV_pick_f rfl rfl rfl rfl) rfl rfl rfl ?_
    refine doL_v (opV_move rfl) rfl rfl rfl ?_
    refine doL_skip rfl rfl rfl ?_
    refine doL_skip rfl rfl rfl ?_
    refine doL_skip rfl rfl rfl ?_
    refine doL_v (opV_pick_f rfl rfl rfl rfl) rfl rfl rfl ?_
    refine doL_v (opV_assign rfl) rfl rfl rfl ?_
    refine doL_nil ?_
    refine post_then ?_
    refine doC_ret ?_
    refine post_rets (rs := [.tmp 2]) rfl (resC (resIs_tmp rfl) (resN)) (congrArg (vB) (?_ : _ = Iv.valid (⟨a0, a1⟩ : Iv)))
    simp only [Iv.valid, *, Bool.and_false, Bool.and_true, Bool.true_and, Bool.false_and]
theorem rValid (a0 a1 : Int) (w : World) : Calls Try.prog 80 [.agg #[.int .i64 a0, .int .i64 a1]].toArray w (Rets (vB (Iv.valid (⟨a0, a1⟩ : Iv))) (w)) := by
  refine calls_of_doC (n := 18) Try.func80 rfl rfl rfl ?_
  refine doC_seq ?_
  refine doC_region ?_
  refine doL_box 1 rfl rfl rfl rfl ?_; intro b1
  refine doL_v (opV_assign rfl) rfl rfl rfl ?_
  refine doL_nil ?_
  refine post_then ?_
  refine doC_seq ?_
  refine doC_region ?_
  refine doL_v (opV_fieldAddr fa23_0 rfl) rfl rfl rfl ?_
  refine doL_v (opV_load1 1 ty2 rfl rfl rfl) rfl rfl rfl ?_
  refine doL_v (opV_leq rfl rfl) rfl rfl rfl ?_
  refine doL_v (opV_move rfl) rfl rfl rfl ?_
  refine doL_split 6 rfl (fun hg6 => ?_) (fun hg6 => ?_)
  ·
    refine doL_v (opV_fieldAddr fa23_0 rfl) rfl rfl rfl ?_
    refine doL_v (opV_load1 1 ty2 rfl rfl rfl) rfl rfl rfl ?_
    refine doL_v (opV_fieldAddr fa23_1 rfl) rfl rfl rfl ?_
    refine doL_v (opV_load1 1 ty2 rfl rfl rfl) rfl rfl rfl ?_
    refine doL_v (opV_leq rfl rfl) rfl rfl rfl ?_
    refine doL_v (opV_pick_t rfl rfl rfl rfl) rfl rfl rfl ?_
    refine doL_v (opV_move rfl) rfl rfl rfl ?_
    refine doL_split 13 rfl (fun hg13 => ?_) (fun hg13 => ?_)
    ·
      refine doL_v (opV_fieldAddr fa23_1 rfl) rfl rfl rfl ?_
      refine doL_v (opV_load1 1 ty2 rfl rfl rfl) rfl rfl rfl ?_
      refine doL_v (opV_leq rfl rfl) rfl rfl rfl ?_
      refine doL_v (opV_pick_t rfl rfl rfl rfl) rfl rfl rfl ?_
      refine doL_v (opV_assign rfl) rfl rfl rfl ?_
      refine doL_nil ?_
      refine post_then ?_
      refine doC_ret ?_
      refine post_rets (rs := [.tmp 2]) rfl (resC (resIs_tmp rfl) (resN)) (congrArg (vB) (?_ : _ = Iv.valid (⟨a0, a1⟩ : Iv)))
      simp only [Iv.valid, *, Bool.and_false, Bool.and_true, Bool.true_and, Bool.false_and]
    ·
      refine doL_skip rfl rfl rfl ?_
      refine doL_skip rfl rfl rfl ?_
      refine doL_skip rfl rfl rfl ?_
      refine doL_v (opV_pick_f rfl rfl rfl rfl) rfl rfl rfl ?_
      refine doL_v (opV_assign rfl) rfl rfl rfl ?_
      refine doL_nil ?_
      refine post_then ?_
      refine doC_ret ?_
      refine post_rets (rs := [.tmp 2]) rfl (resC (resIs_tmp rfl) (resN)) (congrArg (vB) (?_ : _ = Iv.valid (⟨a0, a1⟩ : Iv)))
      simp only [Iv.valid, *, Bool.and_false, Bool.and_true, Bool.true_and, Bool.false_and]
  ·
    refine doL_skip rfl rfl rfl ?_
    refine doL_skip rfl rfl rfl ?_
    refine doL_skip rfl rfl rfl ?_
    refine doL_skip rfl rfl rfl ?_
    refine doL_skip rfl rfl rfl ?_
    refine doL_v (opV_pick_f rfl rfl rfl rfl) rfl rfl rfl ?_
    refine doL_v (opV_move rfl) rfl rfl rfl ?_
    refine doL_skip rfl rfl rfl ?_
    refine doL_skip rfl rfl rfl ?_
    refine doL_skip rfl rfl rfl ?_
    refine doL_v (opV_pick_f rfl rfl rfl rfl) rfl rfl rfl ?_
    refine doL_v (opV_assign rfl) rfl rfl rfl ?_
    refine doL_nil ?_
    refine post_then ?_
    refine doC_ret ?_
    refine post_rets (rs := [.tmp 2]) rfl (resC (resIs_tmp rfl) (resN)) (congrArg (vB) (?_ : _ = Iv.valid (⟨a0, a1⟩ : Iv)))
    simp only [Iv.valid, *, Bool.and_false, Bool.and_true, Bool.true_and, Bool.false_and]
theorem fClamp (a : Int) (w : World) : Calls Try.prog 146 [.int .i64 a].toArray w (Rets (vI (clampI a)) (w)) := by
  refine calls_of_doC (n := 6) Try.func146 rfl rfl rfl ?_
  refine doC_seq ?_
  refine doC_region ?_
  refine doL_v (opV_assign rfl) rfl rfl rfl ?_
  refine doL_nil ?_
  refine post_then ?_
  refine doC_seq ?_
  refine doC_region ?_
  refine doL_v (opV_move rfl) rfl rfl rfl ?_
  refine doL_v (opV_max2 rfl rfl) rfl rfl rfl ?_
  refine doL_v (opV_min2 rfl rfl) rfl rfl rfl ?_
  refine doL_v (opV_assign rfl) rfl rfl rfl ?_
  refine doL_nil ?_
  refine post_then ?_
  refine doC_ret ?_
  refine post_rets (rs := [.tmp 2]) rfl (resC (resIs_tmp rfl) (resN)) (congrArg (vI) (?_ : _ = clampI a))
  first | rfl | (subst_vars; rfl) | (subst_vars; simp_all)
theorem rClamp (a : Int) (w : World) : Calls Try.prog 86 [.int .i64 a].toArray w (Rets (vI (clampI a)) (w)) := by
  refine calls_of_doC (n := 6) Try.func86 rfl rfl rfl ?_
  refine doC_seq ?_
  refine doC_region ?_
  refine doL_v (opV_assign rfl) rfl rfl rfl ?_
  refine doL_nil ?_
  refine post_then ?_
  refine doC_seq ?_
  refine doC_region ?_
  refine doL_v (opV_move rfl) rfl rfl rfl ?_
  refine doL_v (opV_min2 rfl rfl) rfl rfl rfl ?_
  refine doL_v (opV_max2 rfl rfl) rfl rfl rfl ?_
  refine doL_v (opV_assign rfl) rfl rfl rfl ?_
  refine doL_nil ?_
  refine post_then ?_
  refine doC_ret ?_
  refine post_rets (rs := [.tmp 2]) rfl (resC (resIs_tmp rfl) (resN)) (congrArg (vI) (?_ : _ = clampI a))
  unfold clampI; omega
theorem fShiftDown (a : Int) (k : Int) (h0 : 0 ≤ k ∧ k ≤ 62) (w : World) : Calls Try.prog 151 [.int .i64 a, .int .i64 k].toArray w (Rets (vI (a / 2 ^ (k).toNat)) (w)) := by
  refine calls_of_doC (n := 11) Try.func151 rfl rfl rfl ?_
  refine doC_seq ?_
  refine doC_region ?_
  refine doL_v (opV_assign rfl) rfl rfl rfl ?_
  refine doL_nil ?_
  refine post_then ?_
  refine doC_seq ?_
  refine doC_seq ?_
  refine doC_region ?_
  refine doL_v (opV_move rfl) rfl rfl rfl ?_
  refine doL_v (opV_lss rfl rfl) rfl rfl rfl ?_
  refine doL_nil ?_
  refine post_then ?_
  refine doC_cond_f rfl (by simp; omega) ?_
  refine doC_skip ?_
  refine post_then ?_
  refine doC_seq ?_
  refine doC_region ?_
  refine doL_v (opV_move rfl) rfl rfl rfl ?_
  refine doL_v (opV_move rfl) rfl rfl rfl ?_
  refine doL_v (opV_shr rfl rfl (by first | decide | omega) (shr_eq (by omega) (by omega))) rfl rfl rfl ?_
  refine doL_v (opV_assign rfl) rfl rfl rfl ?_
  refine doL_nil ?_
  refine post_then ?_
  refine doC_ret ?_
  refine post_rets (rs := [.tmp 4]) rfl (resC (resIs_tmp rfl) (resN)) (congrArg (vI) (?_ : _ = a / 2 ^ (k).toNat))
  first | rfl | (subst_vars; rfl) | (subst_vars; simp_all)
theorem fShiftUp (a : Int) (k : Int) (h0 : 0 ≤ k ∧ k ≤ 62) (ha : In64 a) (w : World) : Calls Try.prog 152 [.int .i64 a, .int .i64 k].toArray w (Rets (vI (ceilI a (2 ^ (k).toNat))) (w)) := by
  refine calls_of_doC (n := 20) Try.func152 rfl rfl rfl ?_
  refine doC_seq ?_
  refine doC_region ?_
  refine doL_v (opV_assign rfl) rfl rfl rfl ?_
  refine doL_nil ?_
  refine post_then ?_
  refine doC_seq ?_
  refine doC_seq ?_
  refine doC_region ?_
  refine doL_v (opV_move rfl) rfl rfl rfl ?_
  refine doL_v (opV_lss rfl rfl) rfl rfl rfl ?_
  refine doL_nil ?_
  refine post_then ?_
  refine doC_cond_f rfl (by simp; omega) ?_
  refine doC_skip ?_
  refine post_then ?_
  refine doC_seq ?_
  refine doC_region ?_
  refine doL_v (opV_move rfl) rfl rfl rfl ?_
  refine doL_v (opV_move rfl) rfl rfl rfl ?_
  refine doL_v (opV_shr rfl rfl (by first | decide | omega) (shr_eq (by omega) (by omega))) rfl rfl rfl ?_
  refine doL_v (opV_assign rfl) rfl rfl rfl ?_
  refine doL_nil ?_
  refine post_then ?_
  refine doC_seq ?_
  refine doC_seq ?_
  refine doC_region ?_
  refine doL_v (opV_move rfl) rfl rfl rfl ?_
  refine doL_v (opV_move rfl) rfl rfl rfl ?_
  refine doL_v (opV_shl rfl rfl (by first | decide | omega) (shl_eq ha (by omega) (by omega))) rfl rfl rfl ?_
  refine doL_v (opV_move rfl) rfl rfl rfl ?_
  refine doL_v (opV_neq rfl rfl) rfl rfl rfl ?_
  refine doL_nil ?_
  refine post_then ?_
  refine doC_cond rfl (fun hc16 => ?_) (fun hc16 => ?_)
  ·
    have h1 : ¬ a / 2 ^ k.toNat * 2 ^ k.toNat = a := by simpa using hc16
    have h2 := ceil_of_ne (Int.pow_pos (by decide)) h1
    refine doC_region ?_
    refine doL_v (opV_move rfl) rfl rfl rfl ?_
    refine doL_v (opV_add rfl rfl (i64_in (shiftUp_bnd ha h1))) rfl rfl rfl ?_
    refine doL_v (opV_assign rfl) rfl rfl rfl ?_
    refine doL_nil ?_
    refine post_then ?_
    refine doC_seq ?_
    refine doC_region ?_
    refine doL_v (opV_move rfl) rfl rfl rfl ?_
    refine doL_v (opV_assign rfl) rfl rfl rfl ?_
    refine doL_nil ?_
    refine post_then ?_
    refine doC_ret ?_
    refine post_rets (rs := [.tmp 4]) rfl (resC (resIs_tmp rfl) (resN)) (congrArg (vI) (?_ : _ = ceilI a (2 ^ (k).toNat)))
    exact h2
  ·
    have h1 : a / 2 ^ k.toNat * 2 ^ k.toNat = a := by simpa using hc16
    have h2 := ceil_of_mul (Int.pow_pos (by decide)) h1
    refine doC_skip ?_
    refine post_then ?_
    refine doC_seq ?_
    refine doC_region ?_
    refine doL_v (opV_move rfl) rfl rfl rfl ?_
    refine doL_v (opV_assign rfl) rfl rfl rfl ?_
    refine doL_nil ?_
    refine post_then ?_
    refine doC_ret ?_
    refine post_rets (rs := [.tmp 4]) rfl (resC (resIs_tmp rfl) (resN)) (congrArg (vI) (?_ : _ = ceilI a (2 ^ (k).toNat)))
    exact h2
theorem rFloor (a : Int) (b : Int) (ha : In64 a) (hb : 0 < b) (w : World) : Calls Try.prog 123 [.int .i64 a, .int .i64 b].toArray w (Rets (vI (a / b)) (w)) := by
  refine calls_of_doC (n := 16) Try.func123 rfl rfl rfl ?_
  refine doC_seq ?_
  have hq := tdiv_bnd ha hb
  refine doC_region ?_
  refine doL_v (opV_assign rfl) rfl rfl rfl ?_
  refine doL_nil ?_
  refine post_then ?_
  refine doC_seq ?_
  refine doC_region ?_
  refine doL_v (opV_move rfl) rfl rfl rfl ?_
  refine doL_v (opV_move rfl) rfl rfl rfl ?_
  refine doL_v (opV_quo rfl rfl (by first | decide | omega) (i64_in hq)) rfl rfl rfl ?_
  refine doL_v (opV_assign rfl) rfl rfl rfl ?_
  refine doL_nil ?_
  refine post_then ?_
  refine doC_seq ?_
  refine doC_seq ?_
  refine doC_region ?_
  refine doL_v (opV_move rfl) rfl rfl rfl ?_
  refine doL_v (opV_move rfl) rfl rfl rfl ?_
  refine doL_v (opV_rem rfl rfl (by first | decide | omega) rfl) rfl rfl rfl ?_
  refine doL_v (opV_lss rfl rfl) rfl rfl rfl ?_
  refine doL_nil ?_
  refine post_then ?_
  refine doC_cond rfl (fun hc12 => ?_) (fun hc12 => ?_)
  ·
    refine doC_region ?_
    refine doL_v (opV_move rfl) rfl rfl rfl ?_
    refine doL_v (opV_sub rfl rfl (i64_in (floor_bnd ha hb (by simpa using hc12)))) rfl rfl rfl ?_
    refine doL_v (opV_assign rfl) rfl rfl rfl ?_
    refine doL_nil ?_
    refine post_then ?_
    refine doC_seq ?_
    refine doC_region ?_
    refine doL_v (opV_move rfl) rfl rfl rfl ?_
    refine doL_v (opV_assign rfl) rfl rfl rfl ?_
    refine doL_nil ?_
    refine post_then ?_
    refine doC_ret ?_
    refine post_rets (rs := [.tmp 4]) rfl (resC (resIs_tmp rfl) (resN)) (congrArg (vI) (?_ : _ = a / b))
    exact floor_neg hb (by simpa using hc12)
  ·
    refine doC_skip ?_
    refine post_then ?_
    refine doC_seq ?_
    refine doC_region ?_
    refine doL_v (opV_move rfl) rfl rfl rfl ?_
    refine doL_v (opV_assign rfl) rfl rfl rfl ?_
    refine doL_nil ?_
    refine post_then ?_
    refine doC_ret ?_
    refine post_rets (rs := [.tmp 4]) rfl (resC (resIs_tmp rfl) (resN)) (congrArg (vI) (?_ : _ = a / b))
    exact floor_pos hb (by simpa using hc12)
theorem rCeil (a : Int) (b : Int) (ha : In64 a) (hb : 0 < b) (w : World) : Calls Try.prog 124 [.int .i64 a, .int .i64 b].toArray w (Rets (vI (ceilI a b)) (w)) := by
  refine calls_of_doC (n := 16) Try.func124 rfl rfl rfl ?_
  refine doC_seq ?_
  have hq := tdiv_bnd ha hb
  refine doC_region ?_
  refine doL_v (opV_assign rfl) rfl rfl rfl ?_
  refine doL_nil ?_
  refine post_then ?_
  refine doC_seq ?_
  refine doC_region ?_
  refine doL_v (opV_move rfl) rfl rfl rfl ?_
  refine doL_v (opV_move rfl) rfl rfl rfl ?_
  refine doL_v (opV_quo rfl rfl (by first | decide | omega) (i64_in hq)) rfl rfl rfl ?_
  refine doL_v (opV_assign rfl) rfl rfl rfl ?_
  refine doL_nil ?_
  refine post_then ?_
  refine doC_seq ?_
  refine doC_seq ?_
  refine doC_region ?_
  refine doL_v (opV_move rfl) rfl rfl rfl ?_
  refine doL_v (opV_move rfl) rfl rfl rfl ?_
  refine doL_v (opV_rem rfl rfl (by first | decide | omega) rfl) rfl rfl rfl ?_
  refine doL_v (opV_gtr rfl rfl) rfl rfl rfl ?_
  refine doL_nil ?_
  refine post_then ?_
  refine doC_cond rfl (fun hc12 => ?_) (fun hc12 => ?_)
  ·
    refine doC_region ?_
    refine doL_v (opV_move rfl) rfl rfl rfl ?_
    refine doL_v (opV_add rfl rfl (i64_in (ceil_bnd ha hb (by simpa using hc12)))) rfl rfl rfl ?_
    refine doL_v (opV_assign rfl) rfl rfl rfl ?_
    refine doL_nil ?_
    refine post_then ?_
    refine doC_seq ?_
    refine doC_region ?_
    refine doL_v (opV_move rfl) rfl rfl rfl ?_
    refine doL_v (opV_assign rfl) rfl rfl rfl ?_
    refine doL_nil ?_
    refine post_then ?_
    refine doC_ret ?_
    refine post_rets (rs := [.tmp 4]) rfl (resC (resIs_tmp rfl) (resN)) (congrArg (vI) (?_ : _ = ceilI a b))
    exact ceil_pos hb (by simpa using hc12)
  ·
    refine doC_skip ?_
    refine post_then ?_
    refine doC_seq ?_
    refine doC_region ?_
    refine doL_v (opV_move rfl) rfl rfl rfl ?_
    refine doL_v (opV_assign rfl) rfl rfl rfl ?_
    refine doL_nil ?_
    refine post_then ?_
    refine doC_ret ?_
    refine post_rets (rs := [.tmp 4]) rfl (resC (resIs_tmp rfl) (resN)) (congrArg (vI) (?_ : _ = ceilI a b))
    exact ceil_neg hb (by simpa using hc12)
theorem iLimited (lo : Int) (hi : Int) (w : World) : Calls Try.prog 116 [.int .i64 lo, .int .i64 hi].toArray w (Rets (iv (Iv.limited lo hi)) (w)) := by
  refine calls_of_doC (n := 10) Try.func116 rfl rfl rfl ?_
  refine doC_seq ?_
  refine doC_region ?_
  refine doL_alloc 4 ze23 rfl rfl rfl ?_; intro b4
  refine doL_nil ?_
  refine post_then ?_
  refine doC_seq ?_
  refine doC_region ?_
  refine doL_v (opV_move rfl) rfl rfl rfl ?_
  refine doL_vg (F := vI) (opV_call en146 rfl (fun w _ => fClamp _  w)) rfl rfl rfl ?_; intro r6 hr6
  refine doL_v (opV_move rfl) rfl rfl rfl ?_
  refine doL_vg (F := vI) (opV_call en146 rfl (fun w _ => fClamp _  w)) rfl rfl rfl ?_; intro r8 hr8
  refine doL_v (opV_build la23 rfl rfl) rfl rfl rfl ?_
  refine doL_store 4 ty23 rfl rfl rfl rfl rfl rfl rfl rfl ?_
  refine doL_nil ?_
  refine post_then ?_
  refine doC_ret ?_
  refine post_rets (rs := [.cell 4 23]) rfl (resC (resIs_cell 4 rfl rfl ty23 rfl) (resN)) (congrArg (iv) (?_ : ⟨_, _⟩ = Iv.limited lo hi))
  first | rfl | (subst_vars; rfl) | (subst_vars; simp_all)
theorem rLimited (lo : Int) (hi : Int) (w : World) : Calls Try.prog 122 [.int .i64 lo, .int .i64 hi].toArray w (Rets (iv (Iv.limited lo hi)) (w)) := by
  refine calls_of_doC (n := 10) Try.func122 rfl rfl rfl ?_
  refine doC_seq ?_
  refine doC_region ?_
  refine doL_alloc 4 ze23 rfl rfl rfl ?_; intro b4
  refine doL_nil ?_
  refine post_then ?_
  refine doC_seq ?_
  refine doC_region ?_
  refine doL_v (opV_move rfl) rfl rfl rfl ?_
  refine doL_vg (F := vI) (opV_call en86 rfl (fun w _ => rClamp _  w)) rfl rfl rfl ?_; intro r6 hr6
  refine doL_v (opV_move rfl) rfl rfl rfl ?_
  refine doL_vg (F := vI) (opV_call en86 rfl (fun w _ => rClamp _  w)) rfl rfl rfl ?_; intro r8 hr8
  refine doL_v (opV_build la23 rfl rfl) rfl rfl rfl ?_
  refine doL_store 4 ty23 rfl rfl rfl rfl rfl rfl rfl rfl ?_
  refine doL_nil ?_
  refine post_then ?_
  refine doC_ret ?_
  refine post_rets (rs := [.cell 4 23]) rfl (resC (resIs_cell 4 rfl rfl ty23 rfl) (resN)) (congrArg (iv) (?_ : ⟨_, _⟩ = Iv.limited lo hi))
  first | rfl | (subst_vars; rfl) | (subst_vars; simp_all)
theorem iOf (x : Int) (w : World) : Calls Try.prog 79 [.int .i64 x].toArray w (Rets (iv (Iv.of x)) (w)) := by
  refine calls_of_doC (n := 6) Try.func79 rfl rfl rfl ?_
  refine doC_seq ?_
  refine doC_region ?_
  refine doL_alloc 2 ze23 rfl rfl rfl ?_; intro b2
  refine doL_nil ?_
  refine post_then ?_
  refine doC_seq ?_
  refine doC_region ?_
  refine doL_v (opV_move rfl) rfl rfl rfl ?_
  refine doL_v (opV_move rfl) rfl rfl rfl ?_
  refine doL_vg (F := iv) (opV_call en116 rfl (fun w _ => iLimited _ _  w)) rfl rfl rfl ?_; intro r5 hr5
  refine doL_store 2 ty23 rfl rfl rfl rfl rfl rfl rfl rfl ?_
  refine doL_nil ?_
  refine post_then ?_
  refine doC_ret ?_
  refine post_rets (rs := [.cell 2 23]) rfl (resC (resIs_cell 2 rfl rfl ty23 rfl) (resN)) (congrArg (iv) (?_ : ⟨_, _⟩ = Iv.of x))
  first | rfl | (subst_vars; rfl) | (subst_vars; simp_all)
theorem rOf (x : Int) (w : World) : Calls Try.prog 31 [.int .i64 x].toArray w (Rets (iv (Iv.of x)) (w)) := by
  refine calls_of_doC (n := 8) Try.func31 rfl rfl rfl ?_
  refine doC_seq ?_
  refine doC_region ?_
  refine doL_alloc 2 ze23 rfl rfl rfl ?_; intro b2
  refine doL_nil ?_
  refine post_then ?_
  refine doC_seq ?_
  refine doC_region ?_
  refine doL_v (opV_move rfl) rfl rfl rfl ?_
  refine doL_vg (F := vI) (opV_call en86 rfl (fun w _ => rClamp _  w)) rfl rfl rfl ?_; intro r4 hr4
  refine doL_v (opV_move rfl) rfl rfl rfl ?_
  refine doL_vg (F := vI) (opV_call en86 rfl (fun w _ => rClamp _  w)) rfl rfl rfl ?_; intro r6 hr6
  refine doL_v (opV_build la23 rfl rfl) rfl rfl rfl ?_
  refine doL_store 2 ty23 rfl rfl rfl rfl rfl rfl rfl rfl ?_
  refine doL_nil ?_
  refine post_then ?_
  refine doC_ret ?_
  refine post_rets (rs := [.cell 2 23]) rfl (resC (resIs_cell 2 rfl rfl ty23 rfl) (resN)) (congrArg (iv) (?_ : ⟨_, _⟩ = Iv.of x))
  first | rfl | (subst_vars; rfl) | (subst_vars; simp_all)
theorem iNeg (a0 a1 : Int) (w : World) : Calls Try.prog 78 [.agg #[.int .i64 a0, .int .i64 a1]].toArray w (Rets (iv (Iv.neg (⟨a0, a1⟩ : Iv))) (w)) := by
  refine calls_of_doC (n := 14) Try.func78 rfl rfl rfl ?_
  refine doC_seq ?_
  refine doC_region ?_
  refine doL_box 1 rfl rfl rfl rfl ?_; intro b1
  refine doL_alloc 2 ze23 rfl rfl rfl ?_; intro b2
  refine doL_nil ?_
  refine post_then ?_
  refine doC_seq ?_
  refine doC_seq ?_
  refine doC_region ?_
  refine doL_v (opV_loadA 1 ty23 rfl rfl rfl) rfl rfl rfl ?_
  refine doL_vg (F := vB) (opV_call en75 rfl (fun w _ => iValid _ _  w)) rfl rfl rfl ?_; intro r4 hr4
  refine doL_v (opV_not rfl) rfl rfl rfl ?_
  refine doL_nil ?_
  refine post_then ?_
  refine doC_cond rfl (fun hc5 => ?_) (fun hc5 => ?_)
  ·
    simp only [Bool.not_eq_true'] at hc5
    refine doC_seq ?_
    refine doC_region ?_
    refine doL_v (opV_build la23 rfl rfl) rfl rfl rfl ?_
    refine doL_store 2 ty23 rfl rfl rfl rfl rfl rfl rfl rfl ?_
    refine doL_nil ?_
    refine post_then ?_
    refine doC_ret ?_
    refine post_then_ret ?_
    refine post_rets (rs := [.cell 2 23]) rfl (resC (resIs_cell 2 rfl rfl ty23 rfl) (resN)) (congrArg (iv) (?_ : ⟨_, _⟩ = Iv.neg (⟨a0, a1⟩ : Iv)))
    subst_vars; first | (simp_all [Iv.neg]; done) | (simp_all [Iv.neg] <;> omega) | grind [Iv.neg]
  ·
    simp only [Bool.not_eq_false'] at hc5
    have hv := valid_mk (hr4.symm.trans hc5)
    refine doC_skip ?_
    refine post_then ?_
    refine doC_seq ?_
    refine doC_region ?_
    refine doL_v (opV_fieldAddr fa23_1 rfl) rfl rfl rfl ?_
    refine doL_v (opV_load1 1 ty2 rfl rfl rfl) rfl rfl rfl ?_
    refine doL_v (opV_neg rfl (by first | exact neg_in ⟨by omega, by omega⟩ | rfl)) rfl rfl rfl ?_
    refine doL_v (opV_fieldAddr fa23_0 rfl) rfl rfl rfl ?_
    refine doL_v (opV_load1 1 ty2 rfl rfl rfl) rfl rfl rfl ?_
    refine doL_v (opV_neg rfl (by first | exact neg_in ⟨by omega, by omega⟩ | rfl)) rfl rfl rfl ?_
    refine doL_v (opV_build la23 rfl rfl) rfl rfl rfl ?_
    refine doL_store 2 ty23 rfl rfl rfl rfl rfl rfl rfl rfl ?_
    refine doL_nil ?_
    refine post_then ?_
    refine doC_ret ?_
    refine post_rets (rs := [.cell 2 23]) rfl (resC (resIs_cell 2 rfl rfl ty23 rfl) (resN)) (congrArg (iv) (?_ : ⟨_, _⟩ = Iv.neg (⟨a0, a1⟩ : Iv)))
    subst_vars; first | (simp_all [Iv.neg]; done) | (simp_all [Iv.neg] <;> omega) | grind [Iv.neg]
theorem iValid2 (a0 a1 : Int) (b0 b1 : Int) (w : World) : Calls Try.prog 120 [.agg #[.int .i64 a0, .int .i64 a1], .agg #[.int .i64 b0, .int .i64 b1]].toArray w (Rets (vB ((Iv.valid (⟨a0, a1⟩ : Iv) && Iv.valid (⟨b0, b1⟩ : Iv)))) (w)) := by
  refine calls_of_doC (n := 11) Try.func120 rfl rfl rfl ?_
  refine doC_seq ?_
  refine doC_region ?_
  refine doL_box 2 rfl rfl rfl rfl ?_; intro b2
  refine doL_box 3 rfl rfl rfl rfl ?_; intro b3
  refine doL_v (opV_assign rfl) rfl rfl rfl ?_
  refine doL_nil ?_
  refine post_then ?_
  refine doC_seq ?_
  refine doC_region ?_
  refine doL_v (opV_loadA 2 ty23 rfl rfl rfl) rfl rfl rfl ?_
  refine doL_vg (F := vB) (opV_call en75 rfl (fun w _ => iValid _ _  w)) rfl rfl rfl ?_; intro r6 hr6
  refine doL_v (opV_move rfl) rfl rfl rfl ?_
  refine doL_split 7 rfl (fun hg7 => ?_) (fun hg7 => ?_)
  ·
    refine doL_v (opV_loadA 3 ty23 rfl rfl rfl) rfl rfl rfl ?_
    refine doL_vg (F := vB) (opV_call en75 rfl (fun w _ => iValid _ _  w)) rfl rfl rfl ?_; intro r9 hr9
    refine doL_v (opV_pick_t rfl rfl rfl rfl) rfl rfl rfl ?_
    refine doL_v (opV_assign rfl) rfl rfl rfl ?_
    refine doL_nil ?_
    refine post_then ?_
    refine doC_ret ?_
    refine post_rets (rs := [.tmp 4]) rfl (resC (resIs_tmp rfl) (resN)) (congrArg (vB) (?_ : _ = (Iv.valid (⟨a0, a1⟩ : Iv) && Iv.valid (⟨b0, b1⟩ : Iv))))
    subst_vars; simp_all
  ·
    refine doL_skip rfl rfl rfl ?_
    refine doL_skip rfl rfl rfl ?_
    refine doL_v (opV_pick_f rfl rfl rfl rfl) rfl rfl rfl ?_
    refine doL_v (opV_assign rfl) rfl rfl rfl ?_
    refine doL_nil ?_
    refine post_then ?_
    refine doC_ret ?_
    refine post_rets (rs := [.tmp 4]) rfl (resC (resIs_tmp rfl) (resN)) (congrArg (vB) (?_ : _ = (Iv.valid (⟨a0, a1⟩ : Iv) && Iv.valid (⟨b0, b1⟩ : Iv))))
    subst_vars; simp_all
theorem rAdd (a0 a1 : Int) (b0 b1 : Int) (w : World) : Calls Try.prog 87 [.agg #[.int .i64 a0, .int .i64 a1], .agg #[.int .i64 b0, .int .i64 b1]].toArray w (Rets (iv (Iv.add (⟨a0, a1⟩ : Iv) (⟨b0, b1⟩ : Iv))) (w)) := by
  refine calls_of_doC (n := 25) Try.func87 rfl rfl rfl ?_
  refine doC_seq ?_
  refine doC_region ?_
  refine doL_box 2 rfl rfl rfl rfl ?_; intro b2
  refine doL_box 3 rfl rfl rfl rfl ?_; intro b3
  refine doL_alloc 4 ze23 rfl rfl rfl ?_; intro b4
  refine doL_nil ?_
  refine post_then ?_
  refine doC_seq ?_
  refine doC_seq ?_
  refine doC_region ?_
  refine doL_v (opV_loadA 2 ty23 rfl rfl rfl) rfl rfl rfl ?_
  refine doL_vg (F := vB) (opV_call en80 rfl (fun w _ => rValid _ _  w)) rfl rfl rfl ?_; intro r6 hr6
  refine doL_v (opV_not rfl) rfl rfl rfl ?_
  refine doL_v (opV_move rfl) rfl rfl rfl ?_
  refine doL_split 8 rfl (fun hg8 => ?_) (fun hg8 => ?_)
  ·
    refine doL_skip rfl rfl rfl ?_
    refine doL_skip rfl rfl rfl ?_
    refine doL_skip rfl rfl rfl ?_
    refine doL_v (opV_pick_t rfl rfl rfl rfl) rfl rfl rfl ?_
    refine doL_nil ?_
    refine post_then ?_
    refine doC_cond_t rfl (rfl) ?_
    refine doC_seq ?_
    refine doC_region ?_
    refine doL_v (opV_build la23 rfl rfl) rfl rfl rfl ?_
    refine doL_store 4 ty23 rfl rfl rfl rfl rfl rfl rfl rfl ?_
    refine doL_nil ?_
    refine post_then ?_
    refine doC_ret ?_
    refine post_then_ret ?_
    refine post_rets (rs := [.cell 4 23]) rfl (resC (resIs_cell 4 rfl rfl ty23 rfl) (resN)) (congrArg (iv) (?_ : ⟨_, _⟩ = Iv.add (⟨a0, a1⟩ : Iv) (⟨b0, b1⟩ : Iv)))
    subst_vars; first | (simp_all [Iv.add, Iv.limited]; done) | (simp_all [Iv.add, Iv.limited] <;> omega) | grind [Iv.add, Iv.limited]
  ·
    refine doL_v (opV_loadA 3 ty23 rfl rfl rfl) rfl rfl rfl ?_
    refine doL_vg (F := vB) (opV_call en80 rfl (fun w _ => rValid _ _  w)) rfl rfl rfl ?_; intro r10 hr10
    refine doL_v (opV_not rfl) rfl rfl rfl ?_
    refine doL_v (opV_pick_f rfl rfl rfl rfl) rfl rfl rfl ?_
    refine doL_nil ?_
    refine post_then ?_
    refine doC_cond rfl (fun hc12 => ?_) (fun hc12 => ?_)
    ·
      refine doC_seq ?_
      refine doC_region ?_
      refine doL_v (opV_build la23 rfl rfl) rfl rfl rfl ?_
      refine doL_store 4 ty23 rfl rfl rfl rfl rfl rfl rfl rfl ?_
      refine doL_nil ?_
      refine post_then ?_
      refine doC_ret ?_
      refine post_then_ret ?_
      refine post_rets (rs := [.cell 4 23]) rfl (resC (resIs_cell 4 rfl rfl ty23 rfl) (resN)) (congrArg (iv) (?_ : ⟨_, _⟩ = Iv.add (⟨a0, a1⟩ : Iv) (⟨b0, b1⟩ : Iv)))
      subst_vars; first | (simp_all [Iv.add, Iv.limited]; done) | (simp_all [Iv.add, Iv.limited] <;> omega) | grind [Iv.add, Iv.limited]
    ·
      refine doC_skip ?_
      refine post_then ?_
      refine doC_seq ?_
      have ha := valid_mk (hr6.symm.trans (by simpa using hg8))
      have hb := valid_mk (hr10.symm.trans (by simpa using hc12))
      refine doC_region ?_
      refine doL_v (opV_fieldAddr fa23_0 rfl) rfl rfl rfl ?_
      refine doL_v (opV_load1 2 ty2 rfl rfl rfl) rfl rfl rfl ?_
      refine doL_v (opV_fieldAddr fa23_0 rfl) rfl rfl rfl ?_
      refine doL_v (opV_load1 3 ty2 rfl rfl rfl) rfl rfl rfl ?_
      refine doL_v (opV_add rfl rfl (by first | exact i64_in ⟨by omega, by omega⟩ | rfl)) rfl rfl rfl ?_
      refine doL_v (opV_fieldAddr fa23_1 rfl) rfl rfl rfl ?_
      refine doL_v (opV_load1 2 ty2 rfl rfl rfl) rfl rfl rfl ?_
      refine doL_v (opV_fieldAddr fa23_1 rfl) rfl rfl rfl ?_
      refine doL_v (opV_load1 3 ty2 rfl rfl rfl) rfl rfl rfl ?_
      refine doL_v (opV_add rfl rfl (by first | exact i64_in ⟨by omega, by omega⟩ | rfl)) rfl rfl rfl ?_
      refine doL_vg (F := iv) (opV_call en122 rfl (fun w _ => rLimited _ _  w)) rfl rfl rfl ?_; intro r24 hr24
      refine doL_store 4 ty23 rfl rfl rfl rfl rfl rfl rfl rfl ?_
      refine doL_nil ?_
      refine post_then ?_
      refine doC_ret ?_
      refine post_rets (rs := [.cell 4 23]) rfl (resC (resIs_cell 4 rfl rfl ty23 rfl) (resN)) (congrArg (iv) (?_ : ⟨_, _⟩ = Iv.add (⟨a0, a1⟩ : Iv) (⟨b0, b1⟩ : Iv)))
      subst_vars; first | (simp_all [Iv.add, Iv.limited]; done) | (simp_all [Iv.add, Iv.limited] <;> omega) | grind [Iv.add, Iv.limited]
theorem iAdd (a0 a1 : Int) (b0 b1 : Int) (w : World) : Calls Try.prog 84 [.agg #[.int .i64 a0, .int .i64 a1], .agg #[.int .i64 b0, .int .i64 b1]].toArray w (Rets (iv (Iv.add (⟨a0, a1⟩ : Iv) (⟨b0, b1⟩ : Iv))) (w)) := by
  refine calls_of_doC (n := 21) Try.func84 rfl rfl rfl ?_
  refine doC_seq ?_
  refine doC_region ?_
  refine doL_box 2 rfl rfl rfl rfl ?_; intro b2
  refine doL_box 3 rfl rfl rfl rfl ?_; intro b3
  refine doL_alloc 4 ze23 rfl rfl rfl ?_; intro b4
  refine doL_nil ?_
  refine post_then ?_
  refine doC_seq ?_
  refine doC_seq ?_
  refine doC_region ?_
  refine doL_v (opV_loadA 2 ty23 rfl rfl rfl) rfl rfl rfl ?_
  refine doL_v (opV_loadA 3 ty23 rfl rfl rfl) rfl rfl rfl ?_
  refine doL_vg (F := vB) (opV_call en120 rfl (fun w _ => iValid2 _ _ _ _  w)) rfl rfl rfl ?_; intro r7 hr7
  refine doL_v (opV_not rfl) rfl rfl rfl ?_
  refine doL_nil ?_
  refine post_then ?_
  refine doC_cond rfl (fun hc8 => ?_) (fun hc8 => ?_)
  ·
    refine doC_seq ?_
    refine doC_region ?_
    refine doL_v (opV_build la23 rfl rfl) rfl rfl rfl ?_
    refine doL_store 4 ty23 rfl rfl rfl rfl rfl rfl rfl rfl ?_
    refine doL_nil ?_
    refine post_then ?_
    refine doC_ret ?_
    refine post_then_ret ?_
    refine post_rets (rs := [.cell 4 23]) rfl (resC (resIs_cell 4 rfl rfl ty23 rfl) (resN)) (congrArg (iv) (?_ : ⟨_, _⟩ = Iv.add (⟨a0, a1⟩ : Iv) (⟨b0, b1⟩ : Iv)))
    subst_vars; first | (simp_all [Iv.add, Iv.limited]; done) | (simp_all [Iv.add, Iv.limited] <;> omega) | grind [Iv.add, Iv.limited]
  ·
    refine doC_skip ?_
    refine post_then ?_
    refine doC_seq ?_
    have hv := hr7.symm.trans (by simpa using hc8)
    rw [Bool.and_eq_true] at hv
    have ha := valid_mk hv.1
    have hb := valid_mk hv.2
    refine doC_region ?_
    refine doL_v (opV_fieldAddr fa23_0 rfl) rfl rfl rfl ?_
    refine doL_v (opV_load1 2 ty2 rfl rfl rfl) rfl rfl rfl ?_
    refine doL_v (opV_fieldAddr fa23_0 rfl) rfl rfl rfl ?_
    refine doL_v (opV_load1 3 ty2 rfl rfl rfl) rfl rfl rfl ?_
    refine doL_v (opV_add rfl rfl (by first | exact i64_in ⟨by omega, by omega⟩ | rfl)) rfl rfl rfl ?_
    refine doL_v (opV_fieldAddr fa23_1 rfl) rfl rfl rfl ?_
    refine doL_v (opV_load1 2 ty2 rfl rfl rfl) rfl rfl rfl ?_
    refine doL_v (opV_fieldAddr fa23_1 rfl) rfl rfl rfl ?_
    refine doL_v (opV_load1 3 ty2 rfl rfl rfl) rfl rfl rfl ?_
    refine doL_v (opV_add rfl rfl (by first | exact i64_in ⟨by omega, by omega⟩ | rfl)) rfl rfl rfl ?_
    refine doL_vg (F := iv) (opV_call en116 rfl (fun w _ => iLimited _ _  w)) rfl rfl rfl ?_; intro r20 hr20
    refine doL_store 4 ty23 rfl rfl rfl rfl rfl rfl rfl rfl ?_
    refine doL_nil ?_
    refine post_then ?_
    refine doC_ret ?_
    refine post_rets (rs := [.cell 4 23]) rfl (resC (resIs_cell 4 rfl rfl ty23 rfl) (resN)) (congrArg (iv) (?_ : ⟨_, _⟩ = Iv.add (⟨a0, a1⟩ : Iv) (⟨b0, b1⟩ : Iv)))
    subst_vars; first | (simp_all [Iv.add, Iv.limited]; done) | (simp_all [Iv.add, Iv.limited] <;> omega) | grind [Iv.add, Iv.limited]
theorem iHull (a0 a1 : Int) (b0 b1 : Int) (w : World) : Calls Try.prog 142 [.agg #[.int .i64 a0, .int .i64 a1], .agg #[.int .i64 b0, .int .i64 b1]].toArray w (Rets (iv (Iv.hull (⟨a0, a1⟩ : Iv) (⟨b0, b1⟩ : Iv))) (w)) := by
  refine calls_of_doC (n := 21) Try.func142 rfl rfl rfl ?_
  refine doC_seq ?_
  refine doC_region ?_
  refine doL_box 2 rfl rfl rfl rfl ?_; intro b2
  refine doL_box 3 rfl rfl rfl rfl ?_; intro b3
  refine doL_alloc 4 ze23 rfl rfl rfl ?_; intro b4
  refine doL_nil ?_
  refine post_then ?_
  refine doC_seq ?_
  refine doC_seq ?_
  refine doC_region ?_
  refine doL_v (opV_loadA 2 ty23 rfl rfl rfl) rfl rfl rfl ?_
  refine doL_v (opV_loadA 3 ty23 rfl rfl rfl) rfl rfl rfl ?_
  refine doL_vg (F := vB) (opV_call en120 rfl (fun w _ => iValid2 _ _ _ _  w)) rfl rfl rfl ?_; intro r7 hr7
  refine doL_v (opV_not rfl) rfl rfl rfl ?_
  refine doL_nil ?_
  refine post_then ?_
  refine doC_cond rfl (fun hc8 => ?_) (fun hc8 => ?_)
  ·
    refine doC_seq ?_
    refine doC_region ?_
    refine doL_v (opV_build la23 rfl rfl) rfl rfl rfl ?_
    refine doL_store 4 ty23 rfl rfl rfl rfl rfl rfl rfl rfl ?_
    refine doL_nil ?_
    refine post_then ?_
    refine doC_ret ?_
    refine post_then_ret ?_
    refine post_rets (rs := [.cell 4 23]) rfl (resC (resIs_cell 4 rfl rfl ty23 rfl) (resN)) (congrArg (iv) (?_ : ⟨_, _⟩ = Iv.hull (⟨a0, a1⟩ : Iv) (⟨b0, b1⟩ : Iv)))
    subst_vars; first | (simp_all [Iv.hull]; done) | (simp_all [Iv.hull] <;> omega) | grind [Iv.hull]
  ·
    refine doC_skip ?_
    refine post_then ?_
    refine doC_seq ?_
    refine doC_region ?_
    refine doL_v (opV_fieldAddr fa23_0 rfl) rfl rfl rfl ?_
    refine doL_v (opV_load1 2 ty2 rfl rfl rfl) rfl rfl rfl ?_
    refine doL_v (opV_fieldAddr fa23_0 rfl) rfl rfl rfl ?_
    refine doL_v (opV_load1 3 ty2 rfl rfl rfl) rfl rfl rfl ?_
    refine doL_v (opV_min2 rfl rfl) rfl rfl rfl ?_
    refine doL_v (opV_fieldAddr fa23_1 rfl) rfl rfl rfl ?_
    refine doL_v (opV_load1 2 ty2 rfl rfl rfl) rfl rfl rfl ?_
    refine doL_v (opV_fieldAddr fa23_1 rfl) rfl rfl rfl ?_
    refine doL_v (opV_load1 3 ty2 rfl rfl rfl) rfl rfl rfl ?_
    refine doL_v (opV_max2 rfl rfl) rfl rfl rfl ?_
    refine doL_v (opV_build la23 rfl rfl) rfl rfl rfl ?_
    refine doL_store 4 ty23 rfl rfl rfl rfl rfl rfl rfl rfl ?_
    refine doL_nil ?_
    refine post_then ?_
    refine doC_ret ?_
    refine post_rets (rs := [.cell 4 23]) rfl (resC (resIs_cell 4 rfl rfl ty23 rfl) (resN)) (congrArg (iv) (?_ : ⟨_, _⟩ = Iv.hull (⟨a0, a1⟩ : Iv) (⟨b0, b1⟩ : Iv)))
    subst_vars; first | (simp_all [Iv.hull]; done) | (simp_all [Iv.hull] <;> omega) | grind [Iv.hull]
theorem iWidth (a0 a1 : Int) (w : World) : Calls Try.prog 141 [.agg #[.int .i64 a0, .int .i64 a1]].toArray w (Rets (vI (Iv.width (⟨a0, a1⟩ : Iv))) (w)) := by
  refine calls_of_doC (n := 11) Try.func141 rfl rfl rfl ?_
  refine doC_seq ?_
  refine doC_region ?_
  refine doL_box 1 rfl rfl rfl rfl ?_; intro b1
  refine doL_v (opV_assign rfl) rfl rfl rfl ?_
  refine doL_nil ?_
  refine post_then ?_
  refine doC_seq ?_
  refine doC_seq ?_
  refine doC_region ?_
  refine doL_v (opV_loadA 1 ty23 rfl rfl rfl) rfl rfl rfl ?_
  refine doL_vg (F := vB) (opV_call en75 rfl (fun w _ => iValid _ _  w)) rfl rfl rfl ?_; intro r4 hr4
  refine doL_v (opV_not rfl) rfl rfl rfl ?_
  refine doL_nil ?_
  refine post_then ?_
  refine doC_cond rfl (fun hc5 => ?_) (fun hc5 => ?_)
  ·
    refine doC_seq ?_
    refine doC_region ?_
    refine doL_v (opV_assign rfl) rfl rfl rfl ?_
    refine doL_nil ?_
    refine post_then ?_
    refine doC_ret ?_
    refine post_then_ret ?_
    refine post_rets (rs := [.tmp 2]) rfl (resC (resIs_tmp rfl) (resN)) (congrArg (vI) (?_ : _ = Iv.width (⟨a0, a1⟩ : Iv)))
    subst_vars; first | (simp_all [Iv.width]; done) | (simp_all [Iv.width] <;> omega) | grind [Iv.width]
  ·
    refine doC_skip ?_
    refine post_then ?_
    refine doC_seq ?_
    have ha := valid_mk (hr4.symm.trans (by simpa using hc5))
    refine doC_region ?_
    refine doL_v (opV_fieldAddr fa23_1 rfl) rfl rfl rfl ?_
    refine doL_v (opV_load1 1 ty2 rfl rfl rfl) rfl rfl rfl ?_
    refine doL_v (opV_fieldAddr fa23_0 rfl) rfl rfl rfl ?_
    refine doL_v (opV_load1 1 ty2 rfl rfl rfl) rfl rfl rfl ?_
    refine doL_v (opV_sub rfl rfl (by first | exact i64_in ⟨by omega, by omega⟩ | rfl)) rfl rfl rfl ?_
    refine doL_v (opV_assign rfl) rfl rfl rfl ?_
    refine doL_nil ?_
    refine post_then ?_
    refine doC_ret ?_
    refine post_rets (rs := [.tmp 2]) rfl (resC (resIs_tmp rfl) (resN)) (congrArg (vI) (?_ : _ = Iv.width (⟨a0, a1⟩ : Iv)))
    subst_vars; first | (simp_all [Iv.width]; done) | (simp_all [Iv.width] <;> omega) | grind [Iv.width]
theorem iHas (a0 a1 : Int) (x : Int) (w : World) : Calls Try.prog 161 [.agg #[.int .i64 a0, .int .i64 a1], .int .i64 x].toArray w (Rets (vB (Iv.has (⟨a0, a1⟩ : Iv) x)) (w)) := by
  refine calls_of_doC (n := 19) Try.func161 rfl rfl rfl ?_
  refine doC_seq ?_
  refine doC_region ?_
  refine doL_box 2 rfl rfl rfl rfl ?_; intro b2
  refine doL_v (opV_assign rfl) rfl rfl rfl ?_
  refine doL_nil ?_
  refine post_then ?_
  refine doC_seq ?_
  refine doC_region ?_
  refine doL_v (opV_loadA 2 ty23 rfl rfl rfl) rfl rfl rfl ?_
  refine doL_vg (F := vB) (opV_call en75 rfl (fun w _ => iValid _ _  w)) rfl rfl rfl ?_; intro r6 hr6
  refine doL_v (opV_move rfl) rfl rfl rfl ?_
  refine doL_split 7 rfl (fun hg7 => ?_) (fun hg7 => ?_)
  ·
    refine doL_v (opV_fieldAddr fa23_0 rfl) rfl rfl rfl ?_
    refine doL_v (opV_load1 2 ty2 rfl rfl rfl) rfl rfl rfl ?_
    refine doL_v (opV_move rfl) rfl rfl rfl ?_
    refine doL_v (opV_leq rfl rfl) rfl rfl rfl ?_
    refine doL_v (opV_pick_t rfl rfl rfl rfl) rfl rfl rfl ?_
    refine doL_v (opV_move rfl) rfl rfl rfl ?_
    refine doL_split 13 rfl (fun hg13 => ?_) (fun hg13 => ?_)
    ·
      refine doL_v (opV_move rfl) rfl rfl rfl ?_
      refine doL_v (opV_fieldAddr fa23_1 rfl) rfl rfl rfl ?_
      refine doL_v (opV_load1 2 ty2 rfl rfl rfl) rfl rfl rfl ?_
      refine doL_v (opV_leq rfl rfl) rfl rfl rfl ?_
      refine doL_v (opV_pick_t rfl rfl rfl rfl) rfl rfl rfl ?_
      refine doL_v (opV_assign rfl) rfl rfl rfl ?_
      refine doL_nil ?_
      refine post_then ?_
      refine doC_ret ?_
      refine post_rets (rs := [.tmp 4]) rfl (resC (resIs_tmp rfl) (resN)) (congrArg (vB) (?_ : _ = Iv.has (⟨a0, a1⟩ : Iv) x))
      subst_vars; first | (simp_all [Iv.has]; done) | (simp_all [Iv.has] <;> omega) | grind [Iv.has]
    ·
      refine doL_skip rfl rfl rfl ?_
      refine doL_skip rfl rfl rfl ?_
      refine doL_skip rfl rfl rfl ?_
      refine doL_skip rfl rfl rfl ?_
      refine doL_v (opV_pick_f rfl rfl rfl rfl) rfl rfl rfl ?_
      refine doL_v (opV_assign rfl) rfl rfl rfl ?_
      refine doL_nil ?_
      refine post_then ?_
      refine doC_ret ?_
      refine post_rets (rs := [.tmp 4]) rfl (resC (resIs_tmp rfl) (resN)) (congrArg (vB) (?_ : _ = Iv.has (⟨a0, a1⟩ : Iv) x))
      subst_vars; first | (simp_all [Iv.has]; done) | (simp_all [Iv.has] <;> omega) | grind [Iv.has]
  ·
    refine doL_skip rfl rfl rfl ?_
    refine doL_skip rfl rfl rfl ?_
    refine doL_skip rfl rfl rfl ?_
    refine doL_skip rfl rfl rfl ?_
    refine doL_v (opV_pick_f rfl rfl rfl rfl) rfl rfl rfl ?_
    refine doL_v (opV_move rfl) rfl rfl rfl ?_
    refine doL_skip rfl rfl rfl ?_
    refine doL_skip rfl rfl rfl ?_
    refine doL_skip rfl rfl rfl ?_
    refine doL_skip rfl rfl rfl ?_
    refine doL_v (opV_pick_f rfl rfl rfl rfl) rfl rfl rfl ?_
    refine doL_v (opV_assign rfl) rfl rfl rfl ?_
    refine doL_nil ?_
    refine post_then ?_
    refine doC_ret ?_
    refine post_rets (rs := [.tmp 4]) rfl (resC (resIs_tmp rfl) (resN)) (congrArg (vB) (?_ : _ = Iv.has (⟨a0, a1⟩ : Iv) x))
    subst_vars; first | (simp_all [Iv.has]; done) | (simp_all [Iv.has] <;> omega) | grind [Iv.has]
theorem rMul (a0 a1 : Int) (b0 b1 : Int) (w : World) : Calls Try.prog 125 [.agg #[.int .i64 a0, .int .i64 a1], .agg #[.int .i64 b0, .int .i64 b1]].toArray w (Rets (iv (Iv.mul (⟨a0, a1⟩ : Iv) (⟨b0, b1⟩ : Iv))) (w)) := by
  refine calls_of_doC (n := 51) Try.func125 rfl rfl rfl ?_
  refine doC_seq ?_
  refine doC_region ?_
  refine doL_box 2 rfl rfl rfl rfl ?_; intro b2
  refine doL_box 3 rfl rfl rfl rfl ?_; intro b3
  refine doL_alloc 4 ze23 rfl rfl rfl ?_; intro b4
  refine doL_nil ?_
  refine post_then ?_
  refine doC_seq ?_
  refine doC_seq ?_
  refine doC_region ?_
  refine doL_v (opV_loadA 2 ty23 rfl rfl rfl) rfl rfl rfl ?_
  refine doL_vg (F := vB) (opV_call en80 rfl (fun w _ => rValid _ _  w)) rfl rfl rfl ?_; intro r10 hr10
  refine doL_v (opV_not rfl) rfl rfl rfl ?_
  refine doL_v (opV_move rfl) rfl rfl rfl ?_
  refine doL_split 12 rfl (fun hg12 => ?_) (fun hg12 => ?_)
  ·
    refine doL_skip rfl rfl rfl ?_
    refine doL_skip rfl rfl rfl ?_
    refine doL_skip rfl rfl rfl ?_
    refine doL_v (opV_pick_t rfl rfl rfl rfl) rfl rfl rfl ?_
    refine doL_nil ?_
    refine post_then ?_
    refine doC_cond_t rfl (rfl) ?_
    refine doC_seq ?_
    refine doC_region ?_
    refine doL_v (opV_build la23 rfl rfl) rfl rfl rfl ?_
    refine doL_store 4 ty23 rfl rfl rfl rfl rfl rfl rfl rfl ?_
    refine doL_nil ?_
    refine post_then ?_
    refine doC_ret ?_
    refine post_then_ret ?_
    refine post_rets (rs := [.cell 4 23]) rfl (resC (resIs_cell 4 rfl rfl ty23 rfl) (resN)) (congrArg (iv) (?_ : ⟨_, _⟩ = Iv.mul (⟨a0, a1⟩ : Iv) (⟨b0, b1⟩ : Iv)))
    subst_vars; first | (simp_all [Iv.mul, Iv.limited, min4, max4]; done) | (simp_all [Iv.mul, Iv.limited, min4, max4] <;> omega) | grind [Iv.mul, Iv.limited, min4, max4]
  ·
    refine doL_v (opV_loadA 3 ty23 rfl rfl rfl) rfl rfl rfl ?_
    refine doL_vg (F := vB) (opV_call en80 rfl (fun w _ => rValid _ _  w)) rfl rfl rfl ?_; intro r14 hr14
    refine doL_v (opV_not rfl) rfl rfl rfl ?_
    refine doL_v (opV_pick_f rfl rfl rfl rfl) rfl rfl rfl ?_
    refine doL_nil ?_
    refine post_then ?_
    refine doC_cond rfl (fun hc16 => ?_) (fun hc16 => ?_)
    ·
      refine doC_seq ?_
      refine doC_region ?_
      refine doL_v (opV_build la23 rfl rfl) rfl rfl rfl ?_
      refine doL_store 4 ty23 rfl rfl rfl rfl rfl rfl rfl rfl ?_
      refine doL_nil ?_
      refine post_then ?_
      refine doC_ret ?_
      refine post_then_ret ?_
      refine post_rets (rs := [.cell 4 23]) rfl (resC (resIs_cell 4 rfl rfl ty23 rfl) (resN)) (congrArg (iv) (?_ : ⟨_, _⟩ = Iv.mul (⟨a0, a1⟩ : Iv) (⟨b0, b1⟩ : Iv)))
      subst_vars; first | (simp_all [Iv.mul, Iv.limited, min4, max4]; done) | (simp_all [Iv.mul, Iv.limited, min4, max4] <;> omega) | grind [Iv.mul, Iv.limited, min4, max4]
    ·
      refine doC_skip ?_
      refine post_then ?_
      refine doC_seq ?_
      have ha := valid_mk (hr10.symm.trans (by simpa using hg12))
      have hb := valid_mk (hr14.symm.trans (by simpa using hc16))
      have m1 := mul_bnd (a := a0) (b := b0) (by omega) (by omega)
      have m2 := mul_bnd (a := a0) (b := b1) (by omega) (by omega)
      have m3 := mul_bnd (a := a1) (b := b0) (by omega) (by omega)
      have m4 := mul_bnd (a := a1) (b := b1) (by omega) (by omega)
      refine doC_drawn 23 mo (by kernel_rfl) ?_
      simp only [List.take_succ_cons, List.take_zero, List.drop_succ_cons, List.drop_zero]
      refine doG_v (opV_fieldAddr fa23_0 rfl) rfl rfl rfl ?_
      refine doG_v (opV_load1 2 ty2 rfl rfl rfl) rfl rfl rfl ?_
      refine doG_v (opV_fieldAddr fa23_0 rfl) rfl rfl rfl ?_
      refine doG_v (opV_load1 3 ty2 rfl rfl rfl) rfl rfl rfl ?_
      refine doG_v (opV_mul rfl rfl (by first | exact i64_in ⟨by omega, by omega⟩ | rfl)) rfl rfl rfl ?_
      refine doG_v (opV_fieldAddr fa23_0 rfl) rfl rfl rfl ?_
      refine doG_v (opV_load1 2 ty2 rfl rfl rfl) rfl rfl rfl ?_
      refine doG_v (opV_fieldAddr fa23_1 rfl) rfl rfl rfl ?_
      refine doG_v (opV_load1 3 ty2 rfl rfl rfl) rfl rfl rfl ?_
      refine doG_v (opV_mul rfl rfl (by first | exact i64_in ⟨by omega, by omega⟩ | rfl)) rfl rfl rfl ?_
      refine doG_v (opV_fieldAddr fa23_1 rfl) rfl rfl rfl ?_
      refine doG_v (opV_load1 2 ty2 rfl rfl rfl) rfl rfl rfl ?_
      refine doG_v (opV_fieldAddr fa23_0 rfl) rfl rfl rfl ?_
      refine doG_v (opV_load1 3 ty2 rfl rfl rfl) rfl rfl rfl ?_
      refine doG_v (opV_mul rfl rfl (by first | exact i64_in ⟨by omega, by omega⟩ | rfl)) rfl rfl rfl ?_
      refine doG_v (opV_fieldAddr fa23_1 rfl) rfl rfl rfl ?_
      refine doG_v (opV_load1 2 ty2 rfl rfl rfl) rfl rfl rfl ?_
      refine doG_v (opV_fieldAddr fa23_1 rfl) rfl rfl rfl ?_
      refine doG_v (opV_load1 3 ty2 rfl rfl rfl) rfl rfl rfl ?_
      refine doG_v (opV_mul rfl rfl (by first | exact i64_in ⟨by omega, by omega⟩ | rfl)) rfl rfl rfl ?_
      refine doG_v (opV_assign rfl) rfl rfl rfl ?_
      refine doG_v (opV_assign rfl) rfl rfl rfl ?_
      refine doG_v (opV_assign rfl) rfl rfl rfl ?_
      refine doG_nil ?_
      refine tail_nil ?_
      refine doL_v (opV_assign rfl) rfl rfl rfl ?_
      refine doL_nil ?_
      refine post_then ?_
      refine doC_seq ?_
      refine doC_region ?_
      refine doL_v (opV_move rfl) rfl rfl rfl ?_
      refine doL_v (opV_move rfl) rfl rfl rfl ?_
      refine doL_v (opV_move rfl) rfl rfl rfl ?_
      refine doL_v (opV_move rfl) rfl rfl rfl ?_
      refine doL_v (opV_min4 rfl rfl rfl rfl) rfl rfl rfl ?_
      refine doL_vg (F := vI) (opV_call en123 rfl (fun w _ => rFloor _ _ (by unfold In64; omega) (by omega) w)) rfl rfl rfl ?_; intro r43 hr43
      refine doL_v (opV_move rfl) rfl rfl rfl ?_
      refine doL_v (opV_move rfl) rfl rfl rfl ?_
      refine doL_v (opV_move rfl) rfl rfl rfl ?_
      refine doL_v (opV_move rfl) rfl rfl rfl ?_
      refine doL_v (opV_max4 rfl rfl rfl rfl) rfl rfl rfl ?_
      refine doL_vg (F := vI) (opV_call en124 rfl (fun w _ => rCeil _ _ (by unfold In64; omega) (by omega) w)) rfl rfl rfl ?_; intro r49 hr49
      refine doL_vg (F := iv) (opV_call en122 rfl (fun w _ => rLimited _ _  w)) rfl rfl rfl ?_; intro r50 hr50
      refine doL_store 4 ty23 rfl rfl rfl rfl rfl rfl rfl rfl ?_
      refine doL_nil ?_
      refine post_then ?_
      refine doC_ret ?_
      refine post_rets (rs := [.cell 4 23]) rfl (resC (resIs_cell 4 rfl rfl ty23 rfl) (resN)) (congrArg (iv) (?_ : ⟨_, _⟩ = Iv.mul (⟨a0, a1⟩ : Iv) (⟨b0, b1⟩ : Iv)))
      subst_vars; first | (simp_all [Iv.mul, Iv.limited, min4, max4]; done) | (simp_all [Iv.mul, Iv.limited, min4, max4] <;> omega) | grind [Iv.mul, Iv.limited, min4, max4]
end Go.Proofs.Ytonampcmhhhffaa

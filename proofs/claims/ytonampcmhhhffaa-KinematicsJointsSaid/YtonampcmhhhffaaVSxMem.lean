/- The memory rules of the symbolic executor, for any program. No condition. -/
import Derived.Test.YtonampcmhhhffaaVSxOps
namespace Go.Sx
open Go.RowKit

/-! ### Lists of cells, written out by evaluation -/
def takeV : List Value → Nat → Option (List Value)
  | _, 0 => some []
  | c :: cs, k + 1 => consO c (takeV cs k)
  | [], _ + 1 => none
def sliceV : List Value → Nat → Nat → Option (List Value)
  | cs, 0, k => takeV cs k
  | _ :: cs, off + 1, k => sliceV cs off k
  | [], _ + 1, _ => none
def spliceV : List Value → Nat → List Value → Option (List Value)
  | cs, 0, [] => some cs
  | _ :: cs, 0, v :: vs => consO v (spliceV cs 0 vs)
  | c :: cs, off + 1, vs => consO c (spliceV cs off vs)
  | [], 0, _ :: _ => none
  | [], _ + 1, _ => none
def copyV : List Value → Option (List Value)
  | [] => some []
  | c :: cs => consO c (copyV cs)

theorem takeV_spec {cs : List Value} {k : Nat} {vs : List Value} (h : takeV cs k = some vs) : vs = cs.take k ∧ k ≤ cs.length := by
  induction k generalizing cs vs with
  | zero => simp [takeV] at h; simp [h]
  | succ k ih =>
    cases cs with
    | nil => simp [takeV] at h
    | cons c cs =>
      simp only [takeV] at h
      obtain ⟨ws, hw, rfl⟩ := consO_some h
      obtain ⟨e, hl⟩ := ih hw
      simp [← e, hl]
theorem sliceV_spec {cs : List Value} {off k : Nat} {vs : List Value} (h : sliceV cs off k = some vs) : vs = (cs.drop off).take k ∧ off + k ≤ cs.length := by
  induction off generalizing cs with
  | zero =>
    have := takeV_spec (by simpa [sliceV] using h)
    simpa using this
  | succ off ih =>
    cases cs with
    | nil => simp [sliceV] at h
    | cons c cs =>
      have := ih (by simpa [sliceV] using h)
      simp [this.1]; omega
theorem spliceV_spec {cs : List Value} {off : Nat} {vs cs' : List Value} (h : spliceV cs off vs = some cs') :
    cs' = cs.take off ++ vs ++ cs.drop (off + vs.length) ∧ off + vs.length ≤ cs.length := by
  induction cs generalizing off vs cs' with
  | nil =>
    cases off with
    | zero => cases vs with
      | nil => simp [spliceV] at h; simp [h]
      | cons v vs => simp [spliceV] at h
    | succ off => simp [spliceV] at h
  | cons c cs ih =>
    cases off with
    | zero => cases vs with
      | nil => simp [spliceV] at h; simp [h]
      | cons v vs =>
        simp only [spliceV] at h
        obtain ⟨ws, hw, rfl⟩ := consO_some h
        obtain ⟨e, hl⟩ := ih hw
        simp at e hl ⊢
        exact ⟨e, hl⟩
    | succ off =>
      simp only [spliceV] at h
      obtain ⟨ws, hw, rfl⟩ := consO_some h
      obtain ⟨e, hl⟩ := ih hw
      simp [e, show off + 1 + vs.length = (off + vs.length) + 1 by omega]; omega
theorem copyV_spec {cs vs : List Value} (h : copyV cs = some vs) : vs = cs := by
  induction cs generalizing vs with
  | nil => simp [copyV] at h; exact h
  | cons c cs ih =>
    simp only [copyV] at h
    obtain ⟨ws, hw, rfl⟩ := consO_some h
    rw [ih hw]

/-! ### Types -/
def tyB (P : Program) (t : TypeId) (agg : Bool) (size : Nat) : Bool :=
  (match P.underlying t with | some (.struct _) => agg | some (.array _ _) => agg | some _ => !agg | none => false) && (match P.info? t with | some i => i.size == size | none => false)
def zeroIs (P : Program) (t : TypeId) (v : Value) : Prop := (P.info? t).bind (·.zero) = some v
def fieldB (P : Program) (s f off : Nat) : Bool :=
  match P.underlying s with
  | some (.struct fields) => match fields[f]? with
    | some fld => fld.offset == off && (match P.info? fld.type with | some i => i.size != 0 | none => false)
    | none => false
  | _ => false
def arrB (P : Program) (t len size : Nat) : Bool :=
  match P.underlying t with
  | some (.array l e) => l == len && (match P.info? e with | some i => i.size == size | none => false)
  | _ => false
def slcB (P : Program) (t e size : Nat) : Bool :=
  match P.underlying t with
  | some (.slice e') => e' == e && (match P.info? e with | some i => i.size == size | none => false)
  | _ => false

section
variable {P : Program} {n : Nat} {w0 : Base} {ops : Array Oper} {Q : Exit → Act → World → Prop} {S : Slots} {H : Heap}
variable {d : Option Tmp} {ty : TypeId} {pos : String} {af : Array Edge} {g : Option (Nat × Bool)}

theorem tyB_agg {t : TypeId} {agg : Bool} {size : Nat} (h : tyB P t agg size = true) (w : World) : (isAgg t).run P w = .ok agg w := by
  unfold tyB at h
  cases hu : P.underlying t with
  | none => simp [hu] at h
  | some ds => cases ds <;> simp [hu] at h <;> simp [isAgg, run_underlying hu, h]
theorem tyB_size {t : TypeId} {agg : Bool} {size : Nat} (h : tyB P t agg size = true) (w : World) : (sizeOf t).run P w = .ok size w := by
  unfold tyB at h
  cases hi : P.info? t with
  | none => simp [hi] at h
  | some i => simp [hi] at h; simp [sizeOf, typeInfo, hi, h.2]
theorem run_zero {t : TypeId} {v : Value} (h : zeroIs P t v) (w : World) : (zeroValue t).run P w = .ok v w := by
  unfold zeroIs at h
  cases hi : P.info? t with
  | none => simp [hi] at h
  | some i => simp [hi] at h; simp [zeroValue, typeInfo, hi, h]

theorem add_addr (b off k : Nat) : (⟨b, off, none⟩ : Addr).add k = ⟨b, off + k, none⟩ := by unfold Addr.add; split <;> simp_all

theorem cell_at {w : World} {b : Nat} {cs : List Value} {ty : TypeId} (h : w.heap[b]? = some (.cells cs.toArray ty)) (i : Nat) : w.cell? ⟨b, i, none⟩ = cs[i]? := by
  simp [World.cell?, h]

theorem run_load_agg {w : World} {b off k : Nat} {vs : List Value} (h : ∀ i, i < k → w.cell? ⟨b, off + i, none⟩ = vs[i]?) (hk : vs.length = k) :
    (loadCells ⟨b, off, none⟩ k).run P w = .ok vs.toArray w := by
  subst hk
  refine run_loadCells_list w _ vs fun j v hj => ?_
  rw [add_addr, h j (by have := (List.getElem?_eq_some_iff.1 hj).1; exact this), hj]

theorem opV_load1 {t : TypeId} {x : Operand} {b off : Nat} {cs : List Value} {ty' : TypeId} {v : Value} (id : Nat) (hT : tyB P t false 1 = true) (hx : ev S x = some (.pointer (some ⟨b, off, none⟩)))
    (hH : lookH H id = some (b, cs, ty')) (hv : cs[off]? = some v) : OpV P w0 S H ⟨d, .load t x, ty, pos, af, g⟩ v :=
  opV_of (by simp [knownB, Op.operands, hx]) rfl fun w k => by
    have := cell_at (k.at hH).2 off
    simp [execOp, evD_of hx, Instr.loadAt, Instr.sureAddr, loadVar, tyB_agg hT, this, hv]
theorem opV_loadA {t : TypeId} {x : Operand} {b off sz : Nat} {cs vs : List Value} {ty' : TypeId} (id : Nat) (hT : tyB P t true sz = true) (hx : ev S x = some (.pointer (some ⟨b, off, none⟩)))
    (hH : lookH H id = some (b, cs, ty')) (hv : sliceV cs off sz = some vs) : OpV P w0 S H ⟨d, .load t x, ty, pos, af, g⟩ (.agg vs.toArray) :=
  opV_of (by simp [knownB, Op.operands, hx]) rfl fun w k => by
    obtain ⟨e, hl⟩ := sliceV_spec hv
    have hr := run_load_agg (P := P) (w := w) (b := b) (off := off) (k := sz) (vs := vs) (fun i hi => by
      rw [cell_at (k.at hH).2, e, List.getElem?_take, if_pos hi, List.getElem?_drop]) (by rw [e]; simp; omega)
    simp [execOp, evD_of hx, Instr.loadAt, Instr.sureAddr, loadVar, tyB_agg hT, tyB_size hT, hr]

/-- reading memory that was there when the call began -/
theorem opV_load1_old {t : TypeId} {x : Operand} {b off : Nat} {v : Value} (hT : tyB P t false 1 = true) (hx : ev S x = some (.pointer (some ⟨b, off, none⟩)))
    (hb : b < w0.w.heap.size) (hv : w0.w.cell? ⟨b, off, none⟩ = some v) : OpV P w0 S H ⟨d, .load t x, ty, pos, af, g⟩ v :=
  opV_of (by simp [knownB, Op.operands, hx]) rfl fun w k => by
    have : w.cell? ⟨b, off, none⟩ = some v := by rw [k.grow.cell (p := ⟨b, off, none⟩) hb, hv]
    simp [execOp, evD_of hx, Instr.loadAt, Instr.sureAddr, loadVar, tyB_agg hT, this]
theorem opV_loadA_old {t : TypeId} {x : Operand} {b off sz : Nat} {vs : List Value} (hT : tyB P t true sz = true) (hx : ev S x = some (.pointer (some ⟨b, off, none⟩)))
    (hb : b < w0.w.heap.size) (hl : Nat.beq vs.length sz = true) (hv : ∀ i, i < sz → w0.w.cell? ⟨b, off + i, none⟩ = vs[i]?) : OpV P w0 S H ⟨d, .load t x, ty, pos, af, g⟩ (.agg vs.toArray) :=
  opV_of (by simp [knownB, Op.operands, hx]) rfl fun w k => by
    have hr := run_load_agg (P := P) (w := w) (b := b) (off := off) (k := sz) (vs := vs) (fun i hi => by
      rw [k.grow.cell (p := ⟨b, off + i, none⟩) hb]; exact hv i hi) (Nat.eq_of_beq_eq_true hl)
    simp [execOp, evD_of hx, Instr.loadAt, Instr.sureAddr, loadVar, tyB_agg hT, tyB_size hT, hr]

theorem doL_store {t : TypeId} {x y : Operand} {b off sz : Nat} {agg : Bool} {cs cs' : List Value} {ty' : TypeId} {v : Value} {H' : Heap} {rest : List Oper} (id : Nat)
    (hT : tyB P t agg sz = true) (hx : ev S x = some (.pointer (some ⟨b, off, none⟩))) (hy : ev S y = some v)
    (hw : wantedS ops S ⟨none, .store t x y, ty, pos, af, g⟩ = some true)
    (hH : lookH H id = some (b, cs, ty')) (hz : Nat.beq v.cells.size sz = true) (h1 : v.cells.toList.all Value.oneCell' = true)
    (hs : spliceV cs off v.cells.toList = some cs') (hu : updH H id cs' = some H') (next : DoL P n w0 ops Q rest S H') :
    DoL P n w0 ops Q (⟨none, .store t x y, ty, pos, af, g⟩ :: rest) S H := by
  intro a w f k
  unfold wpList
  rw [wanted_fits f hw, if_pos rfl]
  refine .inl ?_
  obtain ⟨e, hl⟩ := spliceV_spec hs
  have hst := run_storeCells_at P b off ty' v.cells.toList 0 cs.toArray w (k.at hH).2 (by simpa using hl) (fun u hu => List.all_eq_true.1 h1 u hu)
  have hz' := Nat.eq_of_beq_eq_true hz
  have hrun : (execOp a.eval ⟨none, .store t x y, ty, pos, af, g⟩).run P w = .ok .skip (w.setRow b cs'.toArray) := by
    simp only [Nat.add_zero] at hst
    rw [← e] at hst
    simp [execOp, f.ev hx, f.ev hy, Instr.storeAt, Instr.sureAddr, storeVar, tyB_size hT, hz', hst]
  unfold Oper.wp
  rw [hrun]
  exact next _ _ f (k.set hH hu)

theorem doL_new {o : Oper} {rest : List Oper} {dd : Nat} {cs : List Value} {ty' : TypeId} (id : Nat) (hk : knownB S o = true) (hsel : noSel o = true) (hw : wantedS ops S o = some true) (hd : o.dst = some dd) (hn : Nat.blt dd n = true)
    (hrun : ∀ w, (execOp (evD S) o).run P w = .ok (.value (.pointer (some ⟨w.heap.size, 0, none⟩))) (w.alloc (.cells cs.toArray ty')))
    (next : ∀ b, DoL P n w0 ops Q rest ((dd, .pointer (some ⟨b, 0, none⟩)) :: S) ((id, b, cs, ty') :: H)) : DoL P n w0 ops Q (o :: rest) S H := by
  intro a w f k
  unfold wpList
  rw [wanted_fits f hw, if_pos rfl]
  refine .inl ?_
  unfold Oper.wp
  rw [exec_fits f hk hsel, hrun w]
  simp only [Oper.upon, hd]
  exact next _ _ _ (f.put hn _) (k.alloc id cs ty')

theorem doL_alloc {t : TypeId} {dd : Nat} {rest : List Oper} {z : Value} {cs : List Value} (id : Nat) (hz : zeroIs P t z) (hc : copyV z.cells.toList = some cs)
    (hw : wantedS ops S ⟨some dd, .alloc t, ty, pos, af, g⟩ = some true) (hn : Nat.blt dd n = true)
    (next : ∀ b, DoL P n w0 ops Q rest ((dd, .pointer (some ⟨b, 0, none⟩)) :: S) ((id, b, cs, t) :: H)) : DoL P n w0 ops Q (⟨some dd, .alloc t, ty, pos, af, g⟩ :: rest) S H :=
  doL_new id (by simp [knownB, Op.operands]) rfl hw rfl hn (fun w => by
    have := copyV_spec hc
    subst this
    simp [execOp, Instr.alloc, run_zero hz, newVar, newRow]) next

theorem doL_box {t : TypeId} {dd : Nat} {rest : List Oper} {x : Operand} {v : Value} {cs : List Value} (id : Nat) (hx : ev S x = some v) (hc : copyV v.cells.toList = some cs)
    (hw : wantedS ops S ⟨some dd, .box t x, ty, pos, af, g⟩ = some true) (hn : Nat.blt dd n = true)
    (next : ∀ b, DoL P n w0 ops Q rest ((dd, .pointer (some ⟨b, 0, none⟩)) :: S) ((id, b, cs, t) :: H)) : DoL P n w0 ops Q (⟨some dd, .box t x, ty, pos, af, g⟩ :: rest) S H :=
  doL_new id (by simp [knownB, Op.operands, hx]) rfl hw rfl hn (fun w => by
    have := copyV_spec hc
    subst this
    simp [execOp, Instr.box, evD_of hx, newVar, newRow]) next

/-! ### Addresses and parts -/
theorem opV_fieldAddr {s f off off' : Nat} {x : Operand} {b : Nat} (hF : fieldB P s f off' = true) (hx : ev S x = some (.pointer (some ⟨b, off, none⟩))) :
    OpV P w0 S H ⟨d, .fieldAddr s x f, ty, pos, af, g⟩ (.pointer (some ⟨b, off + off', none⟩)) :=
  opV_of (by simp [knownB, Op.operands, hx]) rfl fun w _ => by
    unfold fieldB at hF
    cases hu : P.underlying s with
    | none => simp [hu] at hF
    | some ds =>
      cases ds <;> simp [hu] at hF
      rename_i fields
      cases hf : fields[f]? with
      | none => simp [hf] at hF
      | some fld =>
        simp [hf] at hF
        obtain ⟨h1, h2⟩ := hF
        cases hi : P.info? fld.type with
        | none => simp [hi] at h2
        | some i =>
          simp [hi] at h2
          subst h1
          simp [execOp, evD_of hx, Instr.fieldAt, Instr.sureAddr, run_underlying hu, hf, fieldPlace, sizeOf, typeInfo, hi, h2, add_addr]

theorem opV_indexAddr {t len size off : Nat} {x y : Operand} {b : Nat} {k : IntKind} {i : Int} (hA : arrB P t len size = true) (hx : ev S x = some (.pointer (some ⟨b, off, none⟩)))
    (hy : ev S y = some (.int k i)) (h0 : 0 ≤ i) (h1 : i < len) : OpV P w0 S H ⟨d, .indexAddr t x y, ty, pos, af, g⟩ (.pointer (some ⟨b, off + i.toNat * size, none⟩)) :=
  opV_of (by simp [knownB, Op.operands, hx, hy]) rfl fun w _ => by
    unfold arrB at hA
    cases hu : P.underlying t with
    | none => simp [hu] at hA
    | some ds =>
      cases ds <;> simp [hu] at hA
      rename_i l e
      obtain ⟨rfl, h2⟩ := hA
      cases hi : P.info? e with
      | none => simp [hi] at h2
      | some inf =>
        simp [hi] at h2
        subst h2
        simp [execOp, evD_of hx, evD_of hy, Instr.indexAt, Instr.sureAddr, asIntOf, run_underlying hu, h0, h1, sizeOf, typeInfo, hi, add_addr]

theorem opV_indexSlice {t e size off len cap : Nat} {x y : Operand} {b : Nat} {k : IntKind} {i : Int} (hA : slcB P t e size = true) (hx : ev S x = some (.slice (some ⟨b, off, none⟩) len cap))
    (hy : ev S y = some (.int k i)) (h0 : 0 ≤ i) (h1 : i < len) : OpV P w0 S H ⟨d, .indexAddr t x y, ty, pos, af, g⟩ (.pointer (some ⟨b, off + i.toNat * size, none⟩)) :=
  opV_of (by simp [knownB, Op.operands, hx, hy]) rfl fun w _ => by
    unfold slcB at hA
    cases hu : P.underlying t with
    | none => simp [hu] at hA
    | some ds =>
      cases ds <;> simp [hu] at hA
      rename_i e'
      obtain ⟨rfl, h2⟩ := hA
      cases hi : P.info? e' with
      | none => simp [hi] at h2
      | some inf =>
        simp [hi] at h2
        subst h2
        simp [execOp, evD_of hx, evD_of hy, Instr.indexAt, asIntOf, run_underlying hu, h0, h1, sizeOf, typeInfo, hi, add_addr]

theorem opV_len_slice {t e size : Nat} {x : Operand} {a : Option Addr} {len cap : Nat} (hA : slcB P t e size = true) (hx : ev S x = some (.slice a len cap)) :
    OpV P w0 S H ⟨d, .call ⟨.builtin .len, #[x], #[t]⟩, ty, pos, af, g⟩ (.int .i64 (len : Int)) :=
  opV_of (by simp [knownB, Op.operands, Call.operands, hx]) rfl fun w _ => by
    unfold slcB at hA
    cases hu : P.underlying t with
    | none => simp [hu] at hA
    | some ds =>
      cases ds <;> simp [hu] at hA
      simp [execOp, resolve, invoke, builtin, evD_of hx, Builtin.len_, run_underlying hu, goInt]

theorem opV_extract {x : Operand} {vs : Array Value} {i : Nat} {v : Value} (hx : ev S x = some (.tuple vs)) (hv : vs[i]? = some v) : OpV P w0 S H ⟨d, .extract x i, ty, pos, af, g⟩ v :=
  opV_of (by simp [knownB, Op.operands, hx]) rfl fun w _ => by simp [execOp, evD_of hx, Instr.extract, hv]

end
end Go.Sx

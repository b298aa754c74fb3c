/- A source of numbers: a pointer to a slice and a count; calls that take from it. For any program. No condition. -/
import Derived.Test.YtonampcmhhhffaaVSxDrawM
import Derived.Test.YtonampcmhhhffaaVSxIdx
import Derived.Test.YtonampcmhhhffaaVSxRow
namespace Go.Sx
open Go.RowKit

/-- a slice of int64 numbers that lies below block m -/
structure IntsAt (w : World) (m : Nat) (sl : Value) (L : List Int) : Prop where
  len : L.length ≤ 9223372036854775807
  slice : ∃ a cap, sl = .slice a L.length cap ∧ ∀ j, j < L.length → ∃ b off, a = some ⟨b, off, none⟩ ∧ b < m ∧ w.cell? ⟨b, off + j, none⟩ = some (.int .i64 (L.getD j 0))

def srcC (sl : Value) (L : List Int) (i : Nat) : List Value := [sl, .int .i64 ((min i L.length : Nat) : Int)]
theorem srcC_zero (sl : Value) (L : List Int) : srcC sl L 0 = [sl, .int .i64 0] := by simp [srcC]
def srcR (L : List Int) (i : Nat) (k : Int) : Int := L.getD i 0 % k
def srcS (L : List Int) (i : Nat) (k : Int) : Int := srcR L i (2 * k + 1) - k
theorem srcR_bnd (L : List Int) (i : Nat) {k : Int} (h : 0 < k) : 0 ≤ srcR L i k ∧ srcR L i k < k := ⟨Int.emod_nonneg _ (by omega), Int.emod_lt_of_pos _ h⟩
theorem srcS_bnd (L : List Int) (i : Nat) {k : Int} (h : 0 ≤ k) : -k ≤ srcS L i k ∧ srcS L i k ≤ k := by
  have := srcR_bnd L i (k := 2 * k + 1) (by omega)
  unfold srcS
  omega
theorem srcR_b {L : List Int} {i : Nat} {k r : Int} (e : r = srcR L i k) (h : 0 < k) : 0 ≤ r ∧ r < k := e ▸ srcR_bnd L i h
theorem srcS_b {L : List Int} {i : Nat} {k r : Int} (e : r = srcS L i k) (h : 0 ≤ k) : -k ≤ r ∧ r ≤ k := e ▸ srcS_bnd L i h
theorem prod_b {x y a c : Int} (hx : 0 ≤ x ∧ x < a) (hy : 0 ≤ y ∧ y < c) : 0 ≤ x * y ∧ x * y ≤ (a - 1) * (c - 1) :=
  ⟨Int.mul_nonneg hx.1 hy.1, Int.mul_le_mul (by omega) (by omega) hy.1 (by omega)⟩
def srcW (w : World) (b : Nat) (sl : Value) (L : List Int) (i : Nat) : World := w.setRow b (srcC sl L i).toArray
def srcB (w0 : Base) (b : Nat) (sl : Value) (L : List Int) (i : Nat) : Base := ⟨srcW w0.w b sl L i, w0.R⟩

structure Src (w : World) (b : Nat) (sl : Value) (L : List Int) (i : Nat) : Prop where
  blk : ∃ ty, w.heap[b]? = some (.cells (srcC sl L i).toArray ty)
  ints : IntsAt w b sl L

theorem Src.lt {w : World} {b : Nat} {sl : Value} {L : List Int} {i : Nat} (h : Src w b sl L i) : b < w.heap.size := by
  obtain ⟨ty, h⟩ := h.blk
  exact heap_lt h
theorem IntsAt.mono {w w' : World} {m m' : Nat} {sl : Value} {L : List Int} (h : IntsAt w m sl L) (hm : m ≤ m') (hw : ∀ k, k < m → w'.heap[k]? = w.heap[k]?) : IntsAt w' m' sl L := by
  obtain ⟨h1, a, cap, h2, h3⟩ := h
  refine ⟨h1, a, cap, h2, fun j hj => ?_⟩
  obtain ⟨b, off, e, hb, hc⟩ := h3 j hj
  refine ⟨b, off, e, by omega, ?_⟩
  rw [← hc]
  exact World.cell?_of_block (w := w) (hw b hb)
theorem srcW_size (w : World) (b : Nat) (sl : Value) (L : List Int) (i : Nat) : (srcW w b sl L i).heap.size = w.heap.size := by simp [srcW]
theorem Src.w {w : World} {b : Nat} {sl : Value} {L : List Int} {i : Nat} (h : Src w b sl L i) (j : Nat) : Src (srcW w b sl L j) b sl L j := by
  obtain ⟨⟨ty, hb⟩, hi⟩ := h
  exact ⟨⟨ty, setRow_heap w b _ _ ty _ hb⟩, hi.mono (Nat.le_refl _) fun k hk => setRow_other w b k _ (by omega)⟩
theorem Src.grow {w w' : World} {b : Nat} {sl : Value} {L : List Int} {i : Nat} (h : Src w b sl L i) (g : Grow w w') : Src w' b sl L i := by
  have hlt := h.lt
  obtain ⟨⟨ty, hb⟩, hi⟩ := h
  exact ⟨⟨ty, by rw [g.block b hlt]; exact hb⟩, hi.mono (Nat.le_refl _) fun k hk => g.block k (by omega)⟩
theorem setRow_self {w : World} {b : Nat} {cs : Array Value} {ty : TypeId} (h : w.heap[b]? = some (.cells cs ty)) : w.setRow b cs = w := by
  have e : (w.setRow b cs).heap = w.heap := by
    apply Array.ext_getElem?
    intro k
    by_cases hk : k = b
    · subst hk
      rw [setRow_heap w k _ cs ty _ h, h]
    · exact setRow_other w b k cs hk
  show { w with heap := (w.setRow b cs).heap } = w
  rw [e]
theorem Src.self {w : World} {b : Nat} {sl : Value} {L : List Int} {i : Nat} (h : Src w b sl L i) : srcW w b sl L i = w := by
  obtain ⟨⟨ty, hb⟩, _⟩ := h
  exact setRow_self hb
theorem srcW_srcW (w : World) (b : Nat) (sl : Value) (L : List Int) (i j : Nat) : srcW (srcW w b sl L i) b sl L j = srcW w b sl L j := setRow_setRow _ _ _ _

def Base.setRow (B : Base) (b : Nat) (cs : Array Value) : Base := ⟨B.w.setRow b cs, B.R⟩
theorem knows_setRow {B : Base} {w' : World} {H : Heap} {b : Nat} {c0 cs cs' : Array Value} {ty : TypeId} (hb : B.w.heap[b]? = some (.cells c0 ty)) (k : Knows (B.setRow b cs) H w') : Knows (B.setRow b cs') H (w'.setRow b cs') := by
  have hlt := heap_lt hb
  have hb1 : w'.heap[b]? = some (.cells cs ty) := by
    rw [k.grow.block b (by simpa [Base.setRow] using hlt)]
    exact setRow_heap B.w b _ _ ty _ hb
  have hsz := k.grow.size
  simp only [Base.setRow, setRow_size] at hsz
  refine ⟨⟨k.grow.os, k.grow.tape, k.grow.output, by simpa [Base.setRow] using hsz, fun i hi => ?_⟩, fun x hx => ?_, k.nodup, fun F hF => ?_, k.apart⟩
  · by_cases e : i = b
    · subst e
      exact (setRow_heap w' i _ cs' ty _ hb1).trans (setRow_heap B.w i _ cs' ty _ hb).symm
    · refine (setRow_other _ _ _ _ e).trans (Eq.trans ?_ (setRow_other B.w b i cs' e).symm)
      have := k.grow.block i (by simpa [Base.setRow] using hi)
      exact this.trans (setRow_other B.w b i cs e)
  · obtain ⟨h1, h2⟩ := k.has x hx
    simp only [Base.setRow, setRow_size] at h1 ⊢
    refine ⟨h1, ?_⟩
    rw [setRow_other _ _ _ _ (by omega)]
    exact h2
  · obtain ⟨h1, h2, h3⟩ := k.facts F hF
    have hbD : ∀ i, F.2.1 i → i ≠ b := fun i hi e => by
      have := (h2 i hi).1
      simp only [Base.setRow, setRow_size] at this
      omega
    exact ⟨h1, fun i hi => ⟨by have := (h2 i hi).1; simpa [Base.setRow] using this, by simpa using (h2 i hi).2.1, (h2 i hi).2.2⟩, h1 w' _ (fun i hi => setRow_other _ _ _ _ (hbD i hi)) h3⟩

section
variable {P : Program} {n : Nat} {w0 : Base} {ops : Array Oper} {Q : Exit → Act → World → Prop} {S : Slots} {H : Heap}
variable {d : Nat} {ty : TypeId} {pos : String} {af : Array Edge} {g : Option (Nat × Bool)}

theorem opV_nilCheck {dd : Option Tmp} {x : Operand} {a : Addr} (hx : ev S x = some (.pointer (some a))) : OpV P w0 S H ⟨dd, .nilCheck x, ty, pos, af, g⟩ (.pointer (some a)) :=
  opV_of (by simp [knownB, Op.operands, hx]) rfl fun w _ => by simp [execOp, evD_of hx]

theorem run_eqB {t : TypeId} {p q : Bool} (hb : P.underlying t = some .bool) (w : World) : (Op.equal t (.bool p) (.bool q)).run P w = .ok (p == q) w := by
  unfold Op.equal
  rw [show Op.maxDepth = 9999 + 1 from rfl, Op.equalIn]
  simp [run_underlying hb]
theorem opV_eqlB {dd : Option Tmp} {x y : Operand} {t t' : TypeId} {p q : Bool} (hb : P.underlying t = some .bool) (hx : ev S x = some (.bool p)) (hy : ev S y = some (.bool q)) : OpV P w0 S H ⟨dd, .binOp .eql t x y t', ty, pos, af, g⟩ (.bool (p == q)) :=
  opV_of (by simp [knownB, Op.operands, hx, hy]) rfl fun w _ => by simp [execOp, evD_of hx, evD_of hy, eqGuard, binOp, run_eqB hb]

/-! ### a block of the base that is read and written -/
theorem base_cell {B : Base} {w' : World} {b : Nat} {c0 cs : List Value} {t0 : TypeId} (hb : B.w.heap[b]? = some (.cells c0.toArray t0)) (k : Knows (B.setRow b cs.toArray) H w') (off : Nat) : w'.cell? ⟨b, off, none⟩ = cs[off]? := by
  have hlt := heap_lt hb
  have : w'.heap[b]? = some (.cells cs.toArray t0) := by
    rw [k.grow.block b (by simpa [Base.setRow] using hlt)]
    exact setRow_heap B.w b _ _ t0 _ hb
  exact cell_at this off
theorem opV_load_base {dd : Option Tmp} {t : TypeId} {x : Operand} {B : Base} {b off : Nat} {c0 cs : List Value} {t0 : TypeId} {v : Value} (hb : B.w.heap[b]? = some (.cells c0.toArray t0)) (hT : tyB P t false 1 = true) (hx : ev S x = some (.pointer (some ⟨b, off, none⟩)))
    (hv : cs[off]? = some v) : OpV P (B.setRow b cs.toArray) S H ⟨dd, .load t x, ty, pos, af, g⟩ v :=
  opV_of (by simp [knownB, Op.operands, hx]) rfl fun w' k => by
    have := base_cell hb k off
    simp [execOp, evD_of hx, Instr.loadAt, Instr.sureAddr, loadVar, tyB_agg hT, this, hv]
theorem doL_store_base {t : TypeId} {x y : Operand} {B : Base} {b off sz : Nat} {agg : Bool} {c0 cs cs' : List Value} {t0 : TypeId} {v : Value} {rest : List Oper} (hb : B.w.heap[b]? = some (.cells c0.toArray t0))
    (hT : tyB P t agg sz = true) (hx : ev S x = some (.pointer (some ⟨b, off, none⟩))) (hy : ev S y = some v)
    (hw : wantedS ops S ⟨none, .store t x y, ty, pos, af, g⟩ = some true) (hz : Nat.beq v.cells.size sz = true) (h1 : v.cells.toList.all Value.oneCell' = true)
    (hs : spliceV cs off v.cells.toList = some cs') (next : DoL P n (B.setRow b cs'.toArray) ops Q rest S H) :
    DoL P n (B.setRow b cs.toArray) ops Q (⟨none, .store t x y, ty, pos, af, g⟩ :: rest) S H := by
  intro a w' f k
  unfold wpList
  rw [wanted_fits f hw, if_pos rfl]
  refine .inl ?_
  have hlt := heap_lt hb
  have hb1 : w'.heap[b]? = some (.cells cs.toArray t0) := by
    rw [k.grow.block b (by simpa [Base.setRow] using hlt)]
    exact setRow_heap B.w b _ _ t0 _ hb
  obtain ⟨e, hl⟩ := spliceV_spec hs
  have hst := run_storeCells_at P b off t0 v.cells.toList 0 cs.toArray w' hb1 (by simpa using hl) (fun u hu => List.all_eq_true.1 h1 u hu)
  have hz' := Nat.eq_of_beq_eq_true hz
  have hrun : (execOp a.eval ⟨none, .store t x y, ty, pos, af, g⟩).run P w' = .ok .skip (w'.setRow b cs'.toArray) := by
    simp only [Nat.add_zero] at hst
    rw [← e] at hst
    simp [execOp, f.ev hx, f.ev hy, Instr.storeAt, Instr.sureAddr, storeVar, tyB_size hT, hz', hst]
  unfold Oper.wp
  rw [hrun]
  exact next _ _ f (knows_setRow hb k)

/-! ### calls that take from a source -/
variable {α : Type} {F : α → Value} {x : α} {f : FuncId} {xs : List Operand} {ats : Array TypeId} {vs : List Value} {rest : List Oper}
variable {B : Base} {b i0 i j : Nat} {sl : Value} {L : List Int}

theorem call_run {dd : Option Tmp} {w : World} (he : Enters P f) (ha : evs S xs = some vs) : (execOp (evD S) ⟨dd, .call ⟨.value (.func f), xs.toArray, ats⟩, ty, pos, af, g⟩).run P w = .ok (.enter f vs.toArray) w := by
  obtain ⟨e, _⟩ := evs_spec ha
  have h2 : evD S (.func f) = .func (.func f) #[] #[] := rfl
  have h3 := he vs.toArray w
  simp [execOp, resolve, h2, Deferred.ofValue, invoke, e, h3]
theorem known_evs {dd : Option Tmp} (ha : evs S xs = some vs) : knownB S ⟨dd, .call ⟨.value (.func f), xs.toArray, ats⟩, ty, pos, af, g⟩ = true := known_call (evs_spec ha).2

theorem doL_srcA (hs : Src B.w b sl L i0) (he : Enters P f) (ha : evs S xs = some vs) (hc : ∀ w', Src w' b sl L i → Calls P f vs.toArray w' (Rets (F x) (srcW w' b sl L j)))
    (hw : wantedS ops S ⟨some d, .call ⟨.value (.func f), xs.toArray, ats⟩, ty, pos, af, g⟩ = some true) (hn : Nat.blt d n = true)
    (next : ∀ r, r = x → DoL P n (srcB B b sl L j) ops Q rest ((d, F r) :: S) H) : DoL P n (srcB B b sl L i) ops Q (⟨some d, .call ⟨.value (.func f), xs.toArray, ats⟩, ty, pos, af, g⟩ :: rest) S H := by
  intro a w' fi k
  unfold wpList
  rw [wanted_fits fi hw, if_pos rfl]
  refine .inl ?_
  unfold Oper.wp
  rw [exec_fits fi (known_evs ha) rfl, call_run he ha]
  simp only [Oper.upon]
  refine (hc w' ((hs.w i).grow k.grow)).mono fun e w'' ⟨he, hg⟩ => ?_
  subst he
  obtain ⟨t0, hb⟩ := hs.blk
  exact next x rfl _ _ (fi.put hn _) ((knows_setRow hb k).next hg)

theorem intsAt_grow {w' : World} (hI : IntsAt w0.w w0.w.heap.size sl L) (g : Grow w0.w w') {m : Nat} (hm : w0.w.heap.size ≤ m) : IntsAt w' m sl L := hI.mono hm fun k hk => g.block k hk
theorem doL_srcB {H' : Heap} {t0 : TypeId} (id : Nat) (hI : IntsAt w0.w w0.w.heap.size sl L) (hH : lookH H id = some (b, srcC sl L i, t0)) (he : Enters P f) (ha : evs S xs = some vs)
    (hc : ∀ w', Src w' b sl L i → Calls P f vs.toArray w' (Rets (F x) (srcW w' b sl L j))) (hu : updH H id (srcC sl L j) = some H')
    (hw : wantedS ops S ⟨some d, .call ⟨.value (.func f), xs.toArray, ats⟩, ty, pos, af, g⟩ = some true) (hn : Nat.blt d n = true)
    (next : ∀ r, r = x → DoL P n w0 ops Q rest ((d, F r) :: S) H') : DoL P n w0 ops Q (⟨some d, .call ⟨.value (.func f), xs.toArray, ats⟩, ty, pos, af, g⟩ :: rest) S H := by
  intro a w' fi k
  unfold wpList
  rw [wanted_fits fi hw, if_pos rfl]
  refine .inl ?_
  unfold Oper.wp
  rw [exec_fits fi (known_evs ha) rfl, call_run he ha]
  simp only [Oper.upon]
  obtain ⟨h1, h2⟩ := k.at hH
  refine (hc w' ⟨⟨t0, h2⟩, intsAt_grow hI k.grow h1⟩).mono fun e w'' ⟨he, hg⟩ => ?_
  subst he
  exact next x rfl _ _ (fi.put hn _) ((k.set hH hu).next hg)

/-- a new block that a call makes -/
def NewT (w : World) (cs : List Value) (t : TypeId) : Pred := fun u w' => ∃ b, u = .pointer (some ⟨b, 0, none⟩) ∧ w.heap.size ≤ b ∧ w'.heap[b]? = some (.cells cs.toArray t)
theorem doL_callNew {cs : List Value} {t0 : TypeId} (id : Nat) (he : Enters P f) (ha : evs S xs = some vs) (hc : ∀ w', Knows w0 H w' → Calls P f vs.toArray w' (RetsT (NewT w' cs t0) w'))
    (hw : wantedS ops S ⟨some d, .call ⟨.value (.func f), xs.toArray, ats⟩, ty, pos, af, g⟩ = some true) (hn : Nat.blt d n = true)
    (next : ∀ b, DoL P n w0 ops Q rest ((d, .pointer (some ⟨b, 0, none⟩)) :: S) ((id, b, cs, t0) :: H)) : DoL P n w0 ops Q (⟨some d, .call ⟨.value (.func f), xs.toArray, ats⟩, ty, pos, af, g⟩ :: rest) S H := by
  intro a w' fi k
  unfold wpList
  rw [wanted_fits fi hw, if_pos rfl]
  refine .inl ?_
  unfold Oper.wp
  rw [exec_fits fi (known_evs ha) rfl, call_run he ha]
  simp only [Oper.upon]
  refine (hc w' k).mono fun e w'' ⟨v, he, hg, bb, hv, hlt, hblk⟩ => ?_
  subst he; subst hv
  have k2 := k.next hg
  refine next bb _ _ (fi.put hn _) ⟨k2.grow, fun y hy => ?_, ?_, fun F hF => (k2.facts F hF).heap fun y hy => ?_, k.apart⟩
  · rcases List.mem_cons.1 hy with rfl | hy
    · exact ⟨Nat.le_trans k.grow.size hlt, hblk⟩
    · exact k2.has y hy
  · rw [List.map_cons, List.nodup_cons]
    refine ⟨fun hm => ?_, k.nodup⟩
    obtain ⟨y, hy, hye⟩ := List.mem_map.1 hm
    have := heap_lt (k.has y hy).2
    simp only at hye
    omega
  · rcases List.mem_cons.1 hy with rfl | hy
    · exact .inr fun hd => by have := ((k.facts F hF).at' _ hd).2.1; simp only at this; omega
    · exact .inl ⟨y, hy, rfl⟩

theorem calls_src {w : World} {fn : Func} {c : Code} {args : List Value} {R : Ending → World → Prop} (hs : Src w b sl L i) (hf : P.funcs[f]? = some fn) (hb : fn.body = some c) (hn : fn.ntmps = n)
    (hle : Nat.ble args.length n = true) (h : DoC P n (srcB ⟨w, []⟩ b sl L i) (bodyPost P fn R) c (initS 0 args) []) : Calls P f args.toArray w R :=
  calls_of_doC hf hb hn hle (by unfold srcB at h; rw [hs.self] at h; exact h)

/-! ### regions that draw -/
theorem famA (hs : Src B.w b sl L i0) (H : Heap) : Fam (· = b) B H (fun i => srcB B b sl L i) (fun _ => H) := ⟨fun s => srcW_size _ _ _ _ _, fun _ => rfl, fun _ => rfl, fun k hk => .inl (hk ▸ hs.lt)⟩
theorem doC_srcA {l : List Oper} {id : Nat} (N : Nat) (es : List Nat) (hs : Src B.w b sl L i0) (hm : P.follows .mixedOrders = true) (hB : (drawB l.toArray N && esB l.toArray es && es.all (Nat.blt · N)) = true)
    (h : DoM P n l.toArray (· = b) (fun i => srcB B b sl L i) (fun _ => H) H es (fun s' S' G' => Tail P n (srcB B b sl L s') l.toArray Q (l.drop N) (fun _ => True) S' H G') (l.take N) 0 i S []) :
    DoC P n (srcB B b sl L i) Q (.region id l.toArray true) S H :=
  doC_drawnM (Wf := fun i => srcB B b sl L i) (Hf := fun _ => H) N es (famA hs H) hm hB h
theorem doM_srcA {l : List Oper} {ix : Nat} {es : List Nat} {G : Ghosts} {K : Nat → Slots → Ghosts → Prop} (hs : Src B.w b sl L i0) (he : Enters P f) (ha : evs S xs = some vs) (hc : ∀ w', Src w' b sl L i → Calls P f vs.toArray w' (Rets (F x) (srcW w' b sl L j)))
    (hw : wantedS ops S ⟨some d, .call ⟨.value (.func f), xs.toArray, ats⟩, ty, pos, af, g⟩ = some true) (hn : Nat.blt d n = true) (hi : es.contains ix = true)
    (next : ∀ r, r = x → DoM P n ops (· = b) (fun i => srcB B b sl L i) (fun _ => H) H es K l (ix + 1) j ((d, F r) :: S) G) :
    DoM P n ops (· = b) (fun i => srcB B b sl L i) (fun _ => H) H es K (⟨some d, .call ⟨.value (.func f), xs.toArray, ats⟩, ty, pos, af, g⟩ :: l) ix i S G :=
  doM_callE he ha (fun w' k => (hc w' ((hs.w i).grow k.grow)).mono fun e w'' ⟨he, hg⟩ => by
    obtain ⟨t0, hb⟩ := hs.blk
    exact ⟨he, (GrowB.set b w' _).trans (.of hg), (knows_setRow hb k).next hg⟩) hw hn hi next

def hfB (H : Heap) (id : Nat) (sl : Value) (L : List Int) (i : Nat) : Heap := (updH H id (srcC sl L i)).getD []
theorem updH_some {H : Heap} {id : Nat} {y : Nat × List Value × TypeId} (h : lookH H id = some y) (cs : List Value) : ∃ H', updH H id cs = some H' := by
  induction H with
  | nil => cases h
  | cons x H ih =>
    obtain ⟨k, bb, c, t⟩ := x
    simp only [lookH] at h
    simp only [updH]
    cases hb : Nat.beq k id with
    | true => exact ⟨_, rfl⟩
    | false =>
      rw [hb] at h
      obtain ⟨H2, h2⟩ := ih h
      exact ⟨_, by simp only [h2, consO]; rfl⟩
theorem updH_self {H : Heap} {id bb : Nat} {cs : List Value} {t : TypeId} (h : lookH H id = some (bb, cs, t)) : updH H id cs = some H := by
  induction H with
  | nil => cases h
  | cons x H ih =>
    obtain ⟨k, b1, c, t1⟩ := x
    simp only [lookH] at h
    simp only [updH]
    cases hb : Nat.beq k id with
    | true =>
      rw [hb] at h
      simp at h
      obtain ⟨rfl, rfl, rfl⟩ := h
      rfl
    | false =>
      rw [hb] at h
      simp only [cond_false] at h ⊢
      rw [ih h]
      rfl
theorem updH_look {H H' : Heap} {id bb : Nat} {cs cs' : List Value} {t : TypeId} (h : lookH H id = some (bb, cs, t)) (hu : updH H id cs' = some H') : lookH H' id = some (bb, cs', t) := by
  induction H generalizing H' with
  | nil => cases h
  | cons x H ih =>
    obtain ⟨k, b1, c, t1⟩ := x
    simp only [lookH] at h
    simp only [updH] at hu
    cases hb : Nat.beq k id with
    | true =>
      rw [hb] at h hu
      simp at h hu
      obtain ⟨rfl, rfl, rfl⟩ := h
      subst hu
      simp [lookH, hb]
    | false =>
      rw [hb] at h hu
      obtain ⟨H2, h2, rfl⟩ := consO_some hu
      simp only [lookH, hb]
      exact ih h h2
theorem updH_updH {H H' : Heap} {id : Nat} {cs cs' : List Value} (hu : updH H id cs = some H') : updH H' id cs' = updH H id cs' := by
  induction H generalizing H' with
  | nil => cases hu
  | cons x H ih =>
    obtain ⟨k, b1, c, t1⟩ := x
    simp only [updH] at hu
    cases hb : Nat.beq k id with
    | true =>
      rw [hb] at hu
      simp at hu
      subst hu
      simp [updH, hb]
    | false =>
      rw [hb] at hu
      obtain ⟨H2, h2, rfl⟩ := consO_some hu
      simp only [updH, hb, cond_false, ih h2]
theorem hfB_spec {t0 : TypeId} {id : Nat} (hH : lookH H id = some (b, srcC sl L i0, t0)) (k : Nat) : updH H id (srcC sl L k) = some (hfB H id sl L k) ∧ lookH (hfB H id sl L k) id = some (b, srcC sl L k, t0) := by
  obtain ⟨H', h⟩ := updH_some hH (srcC sl L k)
  have e : hfB H id sl L k = H' := by simp [hfB, h]
  rw [e]
  exact ⟨h, updH_look hH h⟩
theorem famB {t0 : TypeId} {id : Nat} (hH : lookH H id = some (b, srcC sl L i0, t0)) : Fam (· = b) w0 H (fun _ : Nat => w0) (hfB H id sl L) :=
  ⟨fun _ => rfl, fun _ => rfl, fun s => (by
    obtain ⟨b2, cs2, t2, e1, e2, _⟩ := updH_spec (hfB_spec hH s).1
    exact e2), fun j hj => .inr (by
    obtain ⟨k, hk⟩ := lookH_mem hH
    exact List.mem_map.2 ⟨_, hk, hj.symm⟩)⟩
theorem doC_srcB {l : List Oper} {rid : Nat} {t0 : TypeId} (id N : Nat) (es : List Nat) (hH : lookH H id = some (b, srcC sl L i, t0)) (hm : P.follows .mixedOrders = true) (hB : (drawB l.toArray N && esB l.toArray es && es.all (Nat.blt · N)) = true)
    (h : DoM P n l.toArray (· = b) (fun _ => w0) (hfB H id sl L) H es (fun s' S' G' => Tail P n w0 l.toArray Q (l.drop N) (fun _ => True) S' (hfB H id sl L s') G') (l.take N) 0 i S []) :
    DoC P n w0 Q (.region rid l.toArray true) S H := by
  have := doC_drawnM (Wf := fun _ : Nat => w0) (Hf := hfB H id sl L) (id := rid) N es (famB hH) hm hB h
  have e : hfB H id sl L i = H := by simp [hfB, updH_self hH]
  rw [e] at this
  exact this
theorem doM_srcB {H : Heap} {l : List Oper} {ix : Nat} {es : List Nat} {G : Ghosts} {K : Nat → Slots → Ghosts → Prop} {t0 : TypeId} (id : Nat) (hI : IntsAt w0.w w0.w.heap.size sl L) (hH : lookH H id = some (b, srcC sl L i0, t0)) (he : Enters P f) (ha : evs S xs = some vs) (hc : ∀ w', Src w' b sl L i → Calls P f vs.toArray w' (Rets (F x) (srcW w' b sl L j)))
    (hw : wantedS ops S ⟨some d, .call ⟨.value (.func f), xs.toArray, ats⟩, ty, pos, af, g⟩ = some true) (hn : Nat.blt d n = true) (hi : es.contains ix = true)
    (next : ∀ r, r = x → DoM P n ops (· = b) (fun _ => w0) (hfB H id sl L) H es K l (ix + 1) j ((d, F r) :: S) G) :
    DoM P n ops (· = b) (fun _ => w0) (hfB H id sl L) H es K (⟨some d, .call ⟨.value (.func f), xs.toArray, ats⟩, ty, pos, af, g⟩ :: l) ix i S G :=
  doM_callE he ha (fun w' k => by
    obtain ⟨h1, h2⟩ := hfB_spec hH i
    obtain ⟨h3, h4⟩ := k.at h2
    refine (hc w' ⟨⟨t0, h4⟩, intsAt_grow hI k.grow h3⟩).mono fun e w'' ⟨he, hg⟩ => ?_
    have hu : updH (hfB H id sl L i) id (srcC sl L j) = some (hfB H id sl L j) := (updH_updH h1).trans (hfB_spec hH j).1
    exact ⟨he, (GrowB.set b w' _).trans (.of hg), (k.set h2 hu).next hg⟩) hw hn hi next
theorem tail_heap {H H' : Heap} {G : Ghosts} {tl : List Oper} {Fw : World → Prop} {id k : Nat} (hu : updH H id (srcC sl L k) = some H') (h : Tail P n w0 ops Q tl Fw S H' G) : Tail P n w0 ops Q tl Fw S (hfB H id sl L k) G := by
  have e : hfB H id sl L k = H' := by simp [hfB, hu]
  rw [e]
  exact h
end
end Go.Sx

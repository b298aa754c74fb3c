/- Part 15 of the texts behind the last one: rules and contracts. No condition. -/
import Derived.Test.YtmbnpjpggccefaaGreatMD14
namespace Go.Rx
open Go.RowKit Go.Sx Go.ChangeShapes Go.WideShapes
inductive Sh where
 | i (k : IntKind)
 | b
 | s
 | l (row : List Sh)
inductive Fit : Sh → PV → Prop
 | i (k : IntKind) (x : Int) (h : (Lit.int k x).wf = true) : Fit (.i k) (.n k x)
 | b (x : Bool) : Fit .b (.b x)
 | s (x : ByteArray) (h : x.size ≤ maxLen) : Fit .s (.s x)
 | l (row : List Sh) (n : Nat) (f : Nat → List PV) (hn : n ≤ maxLen) (hl : ∀ j, j < n → (f j).length = row.length) (h : ∀ j, j < n → ∀ (i : Nat) sh p, row[i]? = some sh → (f j)[i]? = some p → Fit sh p) : Fit (.l row) (.lf n f)
def contig : List (Nat × List Sh) → Nat → Bool
 | [], _ => true
 | x :: l, a => Nat.beq x.1 a && contig l (a + x.2.length)
def sumL : List (List Sh) → Nat
 | [] => 0
 | r :: l => r.length + sumL l
def shT (P : Program) : Nat → TypeId → Option (List Sh)
 | 0, _ => none
 | g + 1, t => match P.underlying t with
  | some (.int k) => some [.i k]
  | some .bool => some [.b]
  | some .string => some [.s]
  | some (.slice e) => (shT P g e).bind fun r => bif Nat.beq (P.cellsOf e) r.length && Nat.blt 0 r.length then some [.l r] else none
  | some (.array n e) => (shT P g e).bind fun r => bif Nat.beq (P.cellsOf e) r.length && Nat.beq (P.cellsOf t) (sumL (List.replicate n r)) then some (List.replicate n r).flatten else none
  | some (.struct fs) => (mapO (fun f : Field => (shT P g f.type).bind fun r => bif Nat.beq (P.cellsOf f.type) r.length then some (f.offset, r) else none) fs.toList).bind fun l =>
    bif contig l 0 && Nat.beq (P.cellsOf t) (sumL (l.map (·.2))) then some (l.map (·.2)).flatten else none
  | _ => none
section
variable {P : Program} {w : World} {H : Type} {enc : TypeId × Value → H}
def Good (w : World) (shs : List Sh) (cs : List Value) : Prop := ∃ ps : List PV, ps.length = shs.length ∧ (∀ (i : Nat) sh p, shs[i]? = some sh → ps[i]? = some p → Fit sh p) ∧ Al (RP (fun k => k < w.heap.size) w) ps cs ∧ ∀ v ∈ cs, v.oneCell' = true
theorem Good.one {sh : Sh} {p : PV} {v : Value} (h1 : Fit sh p) (h2 : RP (fun k => k < w.heap.size) w p v) (h3 : v.oneCell' = true) : Good w [sh] [v] :=
 ⟨[p], rfl, (fun i s0 q hs hq => by
  match i with
  | 0 => cases hs; cases hq; exact h1
  | i + 1 => cases hs), qWW h2 al_nil, (fun u hu => by obtain rfl := List.mem_singleton.1 hu; exact h3)⟩
theorem Good.cat {r s : List Sh} {cs ds : List Value} (h1 : Good w r cs) (h2 : Good w s ds) : Good w (r ++ s) (cs ++ ds) := by
 obtain ⟨p, a1, a2, a3, a4⟩ := h1
 obtain ⟨q, b1, b2, b3, b4⟩ := h2
 refine ⟨p ++ q, by simp [a1, b1], fun i sh x hs hx => ?_, a3.append b3, fun v hv => ?_⟩
 ·rcases Nat.lt_or_ge i r.length with hi | hi
  ·rw [List.getElem?_append_left hi] at hs
   rw [List.getElem?_append_left (by omega)] at hx
   exact a2 i sh x hs hx
  ·rw [List.getElem?_append_right hi] at hs
   rw [List.getElem?_append_right (by omega), a1] at hx
   exact b2 _ sh x hs hx
 ·rcases List.mem_append.1 hv with h | h
  ·exact a4 v h
  ·exact b4 v h
def Pieces (w : World) : List (List Sh) → List Value → Prop
 | [], cs => cs = []
 | r :: l, cs => Good w r (cs.take r.length) ∧ Pieces w l (cs.drop r.length)
theorem Pieces.good : ∀ {l : List (List Sh)} {cs : List Value}, Pieces w l cs → Good w l.flatten cs
 | [], cs, h => by
  have : cs = [] := h
  subst this
  exact ⟨[], rfl, fun i sh p hs => by simp at hs, al_nil, fun v hv => by cases hv⟩
 | r :: l, cs, h => by
  have := Good.cat h.1 h.2.good
  rw [List.take_append_drop] at this
  exact this
theorem pieces_arr {r : List Sh} : ∀ (n : Nat) (cs : List Value), cs.length = sumL (List.replicate n r) → (∀ i, i < n → Good w r ((cs.drop (i * r.length)).take r.length)) → Pieces w (List.replicate n r) cs
 | 0, cs, hl, _ => by
  have : cs.length = 0 := hl
  exact List.length_eq_zero_iff.1 this
 | n + 1, cs, hl, h => by
  have hl' : cs.length = r.length + sumL (List.replicate n r) := hl
  refine ⟨by have := h 0 (by omega); simpa using this, pieces_arr n _ (by rw [List.length_drop]; omega) fun i hi => ?_⟩
  have := h (i + 1) (by omega)
  rw [List.drop_drop]
  rw [show r.length + i * r.length = (i + 1) * r.length by rw [Nat.add_mul]; omega]
  exact this
theorem pieces_str : ∀ (l : List (Nat × List Sh)) (a : Nat) (cs : List Value), contig l a = true → (cs.drop a).length = sumL (l.map (·.2)) → (∀ x ∈ l, Good w x.2 ((cs.drop x.1).take x.2.length)) → Pieces w (l.map (·.2)) (cs.drop a)
 | [], a, cs, _, hl, _ => List.length_eq_zero_iff.1 hl
 | x :: l, a, cs, hc, hl, h => by
  simp only [contig, Bool.and_eq_true] at hc
  have e := Nat.eq_of_beq_eq_true hc.1
  have hl' : (cs.drop a).length = x.2.length + sumL (l.map (·.2)) := hl
  rw [List.length_drop] at hl'
  have h0 := h x List.mem_cons_self
  rw [e] at h0
  refine ⟨h0, ?_⟩
  show Pieces w (l.map (·.2)) ((cs.drop a).drop x.2.length)
  rw [List.drop_drop]
  exact pieces_str l (a + x.2.length) cs hc.2 (by rw [List.length_drop]; omega) fun y hy => h y (List.mem_cons_of_mem _ hy)
theorem trod_rp {sp : Nat → Bool} {held : Bool} : ∀ (fuel : Nat) (t : TypeId) (cs : List Value) (x : DataW H × List MemPlace) (g : Nat) (shs : List Sh), DataW.trod enc P w 0 sp held fuel t cs = some x → shT P g t = some shs → Good w shs cs
 | 0, t, cs, x, g, shs, h, _ => by simp [DataW.trod] at h
 | fuel + 1, t, cs, x, 0, shs, h, hs => by cases hs
 | fuel + 1, t, cs, x, g + 1, shs, h, hs => by
  unfold shT at hs
  split at hs
  ·rename_i k hu
   cases hs
   obtain ⟨n, rfl, _, hwf⟩ := DataW.trod_int hu h
   exact Good.one (.i _ _ hwf) (.n _ _) rfl
  ·rename_i hu
   cases hs
   obtain ⟨b, rfl, _⟩ := DataW.trod_bool hu h
   exact Good.one (.b _) (.b _) rfl
  ·rename_i hu
   cases hs
   obtain ⟨s, rfl, _, hs⟩ := DataW.trod_string hu h
   exact Good.one (.s _ hs) (.s _) rfl
  ·rename_i e hu
   simp only [Option.bind_eq_some_iff] at hs
   obtain ⟨r, hr, hs⟩ := hs
   obtain ⟨hb, hs⟩ := zG hs
   cases hs
   simp only [Bool.and_eq_true, Nat.blt_eq] at hb
   have hk := Nat.eq_of_beq_eq_true hb.1
   have hr0 := hb.2
   rcases DataW.trod_slice hu h with ⟨rfl, _⟩ | ⟨a, len, cap, elems, rest, n, hf, rfl, _, _, hl, hm, hel, hcell, _, _⟩
   ·exact Good.one (.l r 0 (fun _ => []) (Nat.zero_le _) (fun j hj => by omega) (fun j hj => by omega)) (.lf 0 _ _ (.l0 _ _)) rfl
   ·obtain rfl : n = fuel := by omega
    have each : ∀ i, ∃ y : List PV × List Value, i < len → w.cells? 0 (a.add (i * r.length)) r.length = some y.2 ∧ y.1.length = r.length ∧ (∀ (j : Nat) sh p, r[j]? = some sh → y.1[j]? = some p → Fit sh p) ∧ Al (RP (fun k => k < w.heap.size) w) y.1 y.2 ∧ ∀ v ∈ y.2, v.oneCell' = true := fun i => by
     by_cases hi : i < len
     ·have hc := hcell i hi
      have he : elems[i]? = some (elems[i]'(by omega)) := List.getElem?_eq_getElem (by omega)
      rw [he, Option.bind_eq_some_iff] at hc
      obtain ⟨cs', h1, h2⟩ := hc
      rw [hk] at h1
      obtain ⟨ps, b1, b2, b3, b4⟩ := trod_rp n e cs' _ g r h2 hr
      exact ⟨(ps, cs'), fun _ => ⟨h1, b1, b2, b3, b4⟩⟩
     ·exact ⟨([], []), fun h => absurd h hi⟩
    obtain ⟨f, hf2⟩ := Classical.axiomOfChoice each
    refine Good.one (.l r len (fun j => (f j).1) (by omega) (fun j hj => (hf2 j hj).2.1) (fun j hj => (hf2 j hj).2.2.1)) (.lf len _ _ ?_) rfl
    rcases Nat.eq_zero_or_pos len with h0 | hpos
    ·subst h0
     exact .l0 _ _
    ·have hsome : ∀ j t, j < len → t < r.length → w.cell? ((a.add (j * r.length)).add t) = (f j).2[t]? := fun j t hj ht => (World.cells?_some (hf2 j hj).1).2.2 t ht
     have hlen2 : ∀ j, j < len → (f j).2.length = r.length := fun j hj => (World.cells?_some (hf2 j hj).1).2.1
     have h00 := hsome 0 0 hpos hr0
     have hg : (f 0).2[0]? = some ((f 0).2[0]'(by rw [hlen2 0 hpos]; exact hr0)) := List.getElem?_eq_getElem _
     rw [hg] at h00
     have hsp : a.spot = none := by
      have e : (a.add (0 * r.length)).add 0 = a := by simp [Addr.add]
      rw [e] at h00
      unfold World.cell? at h00
      cases hb : w.heap[a.block]? with
      | none => simp [hb] at h00
      | some o => cases o <;> simp [hb] at h00; exact h00.1
     obtain ⟨bb, off, sp'⟩ := a
     simp only at hsp
     subst hsp
     have hbb : bb < w.heap.size := by
      rw [qUY, qUY] at h00
      unfold World.cell? at h00
      cases hb : w.heap[bb]? with
      | none => simp [hb] at h00
      | some o => exact uH hb
     refine .l _ bb off len cap r.length (fun j t => ((f j).2[t]?).getD (.bool false)) (by simp) hl (fun q hq => ?_) hbb (fun j t hj ht => ?_) (fun j q t p hq hp => ?_)
     ·obtain ⟨j, hj, rfl⟩ := List.mem_map.1 hq
      exact (hf2 j (List.mem_range.1 hj)).2.1
     ·have h1 := hsome j t hj ht
      have hg2 : (f j).2[t]? = some ((f j).2[t]'(by rw [hlen2 j hj]; exact ht)) := List.getElem?_eq_getElem _
      rw [qUY, qUY, hg2, Nat.add_assoc] at h1
      rw [hg2]
      exact ⟨h1, (hf2 j hj).2.2.2.2 _ (List.getElem_mem _)⟩
     ·have hj : j < len := by have := (List.getElem?_eq_some_iff.1 hq).1; simpa using this
      rw [List.getElem?_map, List.getElem?_range hj] at hq
      cases hq
      have htl := (List.getElem?_eq_some_iff.1 hp).1
      have hg2 : (f j).2[t]? = some ((f j).2[t]'(by rw [hlen2 j hj, ← (hf2 j hj).2.1]; exact htl)) := List.getElem?_eq_getElem _
      have := (hf2 j hj).2.2.2.1.2 t p _ hp hg2
      rw [hg2]
      exact this
  ·rename_i n e hu
   simp only [Option.bind_eq_some_iff] at hs
   obtain ⟨r, hr, hs⟩ := hs
   obtain ⟨hb, hs⟩ := zG hs
   cases hs
   simp only [Bool.and_eq_true] at hb
   have hk := Nat.eq_of_beq_eq_true hb.1
   have hk2 := Nat.eq_of_beq_eq_true hb.2
   obtain ⟨xs, m, hf, _, hl, hxl, hall⟩ := DataW.trod_array hu h
   obtain rfl : m = fuel := by omega
   refine (pieces_arr n cs (hl.trans hk2) fun i hi => ?_).good
   have h1 := hall i hi
   have he : xs[i]? = some (xs[i]'(by omega)) := List.getElem?_eq_getElem (by omega)
   rw [he, hk] at h1
   exact trod_rp m e _ _ g r h1 hr
  ·rename_i fs hu
   simp only [Option.bind_eq_some_iff] at hs
   obtain ⟨l, hlm, hs⟩ := hs
   obtain ⟨hb, hs⟩ := zG hs
   cases hs
   simp only [Bool.and_eq_true] at hb
   have hk2 := Nat.eq_of_beq_eq_true hb.2
   obtain ⟨xs, m, hf, _, hl, hxl, hall⟩ := DataW.trod_struct hu h
   obtain rfl : m = fuel := by omega
   have hm := kH hlm
   have := pieces_str (w := w) l 0 cs hb.1 (by rw [List.drop_zero]; exact hl.trans hk2) fun y hy => by
    obtain ⟨i, hi⟩ := List.mem_iff_getElem?.1 hy
    have hil := (List.getElem?_eq_some_iff.1 hi).1
    have hl2 : i < fs.toList.length := by rw [hm.1]; exact hil
    have hfi : fs.toList[i]? = some (fs.toList[i]'hl2) := List.getElem?_eq_getElem hl2
    have h1 := hm.2 i _ y hfi hi
    generalize fs.toList[i]'hl2 = fd at hfi h1
    simp only [Option.bind_eq_some_iff] at h1
    obtain ⟨r, hr, h1⟩ := h1
    obtain ⟨hb1, h1⟩ := zG h1
    cases h1
    have hk := Nat.eq_of_beq_eq_true hb1
    have h2 := hall i fd (by simpa using hfi)
    have he : xs[i]? = some (xs[i]'(by simp at hxl hl2; omega)) := List.getElem?_eq_getElem _
    rw [he, hk] at h2
    exact trod_rp m fd.type _ _ g r h2 hr
   rw [List.drop_zero] at this
   exact this.good
  ·cases hs
end
end Go.Rx
namespace Go.Rx
open Go.RowKit Go.Sx Go.ChangeShapes Go.WideShapes
section
variable {P : Program} {W : World} {H : Type} {enc : TypeId × Value → H}
def Fits (row : List Sh) (ps : List PV) : Prop := ps.length = row.length ∧ ∀ (i : Nat) sh p, row[i]? = some sh → ps[i]? = some p → Fit sh p
theorem Fits.cons {s0 : Sh} {row : List Sh} {ps : List PV} (h : Fits (s0 :: row) ps) : ∃ p qs, ps = p :: qs ∧ Fit s0 p ∧ Fits row qs := by
 cases ps with
 | nil => have := h.1; simp at this
 | cons p qs => exact ⟨p, qs, rfl, h.2 0 s0 p rfl rfl, by have := h.1; simpa using this, fun i sh q h1 h2 => h.2 (i + 1) sh q h1 h2⟩
theorem Fits.nil {ps : List PV} (h : Fits [] ps) : ps = [] := List.eq_nil_of_length_eq_zero h.1
theorem Fit.int {k : IntKind} {p : PV} (h : Fit (.i k) p) : ∃ x, p = .n k x ∧ (Lit.int k x).wf = true := by cases h with | i k x h => exact ⟨x, rfl, h⟩
theorem Fit.str {p : PV} (h : Fit .s p) : ∃ x, p = .s x := by cases h with | s x h => exact ⟨x, rfl⟩
theorem Fit.bool {p : PV} (h : Fit .b p) : ∃ x, p = .b x := by cases h with | b x => exact ⟨x, rfl⟩
theorem Fit.slc {row : List Sh} {p : PV} (h : Fit (.l row) p) : ∃ n f, p = .lf n f ∧ ∀ j, j < n → Fits row (f j) := by
 cases h with
 | l row n f hn hl h => exact ⟨n, f, rfl, fun j hj => ⟨hl j hj, h j hj⟩⟩
theorem open_good {t : TypeId} {v : Value} {d : DataW H} {p : List MemPlace} {g : Nat} {shs : List Sh} (h : DataW.Trod enc P W 0 (fun _ => true) true t v d p) (hs : shT P g t = some shs) : Good W shs v.cells.toList := by
 obtain ⟨fuel, h⟩ := h
 exact trod_rp fuel t _ _ g shs h hs
theorem open_slc {t e : TypeId} {v : Value} {d : DataW H} {p : List MemPlace} {g : Nat} {row : List Sh} (ht : P.underlying t = some (.slice e)) {r : Reach} {base : Nat} (hv : Value.okWide P W r base t v)
  (h : DataW.Trod enc P W 0 (fun _ => true) true t v d p) (hs : shT P g t = some [.l row]) : ∃ n f, RP (fun k => k < W.heap.size) W (.lf n f) v ∧ ∀ j, j < n → Fits row (f j) := by
 obtain ⟨a, l, c, rfl⟩ := slice_of ht hv
 obtain ⟨ps, h1, h2, h3, _⟩ := open_good h hs
 obtain ⟨q, qs, rfl, hf, hq⟩ := Fits.cons ⟨h1, h2⟩
 obtain ⟨n, f, rfl, hr⟩ := hf.slc
 exact ⟨n, f, h3.2 0 _ _ rfl rfl, hr⟩
theorem open_str {t : TypeId} {fs : Array Field} {v : Value} {d : DataW H} {p : List MemPlace} {g : Nat} {row : List Sh} (ht : P.underlying t = some (.struct fs)) {r : Reach} {base : Nat} (hv : Value.okWide P W r base t v)
  (h : DataW.Trod enc P W 0 (fun _ => true) true t v d p) (hs : shT P g t = some row) : ∃ ps, RP (fun k => k < W.heap.size) W (.a ps) v ∧ Fits row ps := by
 have hcs : ∃ cs, v = .agg cs := by
  unfold Value.okWide at hv
  cases v <;> simp [ht] at hv
  exact ⟨_, rfl⟩
 obtain ⟨cs, rfl⟩ := hcs
 obtain ⟨ps, h1, h2, h3, h4⟩ := open_good h hs
 exact ⟨ps, .a ps cs.toList h3.1 h4 h3.2, h1, h2⟩
theorem lf_fn {α : Type} {F : Nat → Prop} {w : World} {n : Nat} {f : Nat → List PV} {v : Value} {enc : α → List PV} {row : List Sh} (a0 : α) (hr : ∀ ps, Fits row ps → ∃ a, ps = enc a) (hf : ∀ j, j < n → Fits row (f j)) (h : RP F w (.lf n f) v) :
  ∃ g : Nat → α, RP F w (.lf n fun j => enc (g j)) v := by
 have each : ∀ j, ∃ a : α, j < n → f j = enc a := fun j => by
  by_cases hj : j < n
  ·obtain ⟨a, ha⟩ := hr _ (hf j hj)
   exact ⟨a, fun _ => ha⟩
  ·exact ⟨a0, fun h => absurd h hj⟩
 obtain ⟨g, hg⟩ := Classical.axiomOfChoice each
 refine ⟨g, rp_lf_l ?_ (rp_l_lf rfl h)⟩
 exact List.map_congr_left fun j hj => hg j (List.mem_range.1 hj)
theorem lf_same {n : Nat} {f g : Nat → List PV} (h : ∀ j, j < n → f j = g j) : Same (.lf n f) (.lf n g) := fun F w v hv =>
 rp_lf_l (List.map_congr_left fun j hj => h j (List.mem_range.1 hj)) (rp_l_lf rfl hv)
end
end Go.Rx
namespace Go.Proofs.YtmbnpjpggccefaaGreat.Ni
open Go.Rx Rt Go.Sx Go.RowKit Go.ChangeShapes Go.WideShapes Od Ov Pc Na Nb Nc Nd Nx
def shJ : List Sh := [.s, .i .i64, .i .i64, .i .i64, .i .i64, .i .i64, .i .i64, .i .i64, .i .i64, .i .i64, .i .i64, .i .i64]
theorem row_J {ps : List PV} (h : Fits shJ ps) : ∃ a : J, ps = jp a := by
 unfold shJ at h
 obtain ⟨p0, q0, rfl, f0, h⟩ := h.cons
 obtain ⟨p1, q1, rfl, f1, h⟩ := h.cons
 obtain ⟨p2, q2, rfl, f2, h⟩ := h.cons
 obtain ⟨p3, q3, rfl, f3, h⟩ := h.cons
 obtain ⟨p4, q4, rfl, f4, h⟩ := h.cons
 obtain ⟨p5, q5, rfl, f5, h⟩ := h.cons
 obtain ⟨p6, q6, rfl, f6, h⟩ := h.cons
 obtain ⟨p7, q7, rfl, f7, h⟩ := h.cons
 obtain ⟨p8, q8, rfl, f8, h⟩ := h.cons
 obtain ⟨p9, q9, rfl, f9, h⟩ := h.cons
 obtain ⟨p10, q10, rfl, f10, h⟩ := h.cons
 obtain ⟨p11, q11, rfl, f11, h⟩ := h.cons
 obtain rfl := h.nil
 obtain ⟨x0, rfl⟩ := f0.str
 obtain ⟨x1, rfl, _⟩ := f1.int
 obtain ⟨x2, rfl, _⟩ := f2.int
 obtain ⟨x3, rfl, _⟩ := f3.int
 obtain ⟨x4, rfl, _⟩ := f4.int
 obtain ⟨x5, rfl, _⟩ := f5.int
 obtain ⟨x6, rfl, _⟩ := f6.int
 obtain ⟨x7, rfl, _⟩ := f7.int
 obtain ⟨x8, rfl, _⟩ := f8.int
 obtain ⟨x9, rfl, _⟩ := f9.int
 obtain ⟨x10, rfl, _⟩ := f10.int
 obtain ⟨x11, rfl, _⟩ := f11.int
 exact ⟨⟨x0, x1, x2, ⟨x3, x4, x5⟩, x6, x7, x8, x9, x10, x11⟩, rfl⟩
def shM : List Sh := [.i .i64, .i .i64, .i .i64, .i .i64, .i .i64]
theorem row_M {ps : List PV} (h : Fits shM ps) : ∃ a : Ms, ps = mp a := by
 unfold shM at h
 obtain ⟨p0, q0, rfl, f0, h⟩ := h.cons
 obtain ⟨p1, q1, rfl, f1, h⟩ := h.cons
 obtain ⟨p2, q2, rfl, f2, h⟩ := h.cons
 obtain ⟨p3, q3, rfl, f3, h⟩ := h.cons
 obtain ⟨p4, q4, rfl, f4, h⟩ := h.cons
 obtain rfl := h.nil
 obtain ⟨x0, rfl, _⟩ := f0.int
 obtain ⟨x1, rfl, _⟩ := f1.int
 obtain ⟨x2, rfl, _⟩ := f2.int
 obtain ⟨x3, rfl, _⟩ := f3.int
 obtain ⟨x4, rfl, _⟩ := f4.int
 exact ⟨⟨x0, x1, ⟨x2, x3, x4⟩⟩, rfl⟩
def shC : List Sh := [.i .i64, .i .i64, .i .i64, .i .i64, .i .i64, .i .i64, .i .i64, .i .i64, .i .i64, .i .i64]
theorem row_C {ps : List PV} (h : Fits shC ps) : ∃ a : Cn, ps = cp a := by
 unfold shC at h
 obtain ⟨p0, q0, rfl, f0, h⟩ := h.cons
 obtain ⟨p1, q1, rfl, f1, h⟩ := h.cons
 obtain ⟨p2, q2, rfl, f2, h⟩ := h.cons
 obtain ⟨p3, q3, rfl, f3, h⟩ := h.cons
 obtain ⟨p4, q4, rfl, f4, h⟩ := h.cons
 obtain ⟨p5, q5, rfl, f5, h⟩ := h.cons
 obtain ⟨p6, q6, rfl, f6, h⟩ := h.cons
 obtain ⟨p7, q7, rfl, f7, h⟩ := h.cons
 obtain ⟨p8, q8, rfl, f8, h⟩ := h.cons
 obtain ⟨p9, q9, rfl, f9, h⟩ := h.cons
 obtain rfl := h.nil
 obtain ⟨x0, rfl, _⟩ := f0.int
 obtain ⟨x1, rfl, _⟩ := f1.int
 obtain ⟨x2, rfl, _⟩ := f2.int
 obtain ⟨x3, rfl, _⟩ := f3.int
 obtain ⟨x4, rfl, _⟩ := f4.int
 obtain ⟨x5, rfl, _⟩ := f5.int
 obtain ⟨x6, rfl, _⟩ := f6.int
 obtain ⟨x7, rfl, _⟩ := f7.int
 obtain ⟨x8, rfl, _⟩ := f8.int
 obtain ⟨x9, rfl, _⟩ := f9.int
 exact ⟨⟨x0, x1, ⟨x2, x3, x4⟩, ⟨x5, x6, x7⟩, x8, x9⟩, rfl⟩
def shV : List Sh := [.i .i64, .i .i64]
theorem row_V {ps : List PV} (h : Fits shV ps) : ∃ a : Iv, ps = Rx.ivC a := by
 unfold shV at h
 obtain ⟨p0, q0, rfl, f0, h⟩ := h.cons
 obtain ⟨p1, q1, rfl, f1, h⟩ := h.cons
 obtain rfl := h.nil
 obtain ⟨x0, rfl, _⟩ := f0.int
 obtain ⟨x1, rfl, _⟩ := f1.int
 exact ⟨⟨x0, x1⟩, rfl⟩
section
variable {W : World} {H : Type} {enc : TypeId × Value → H} {r : Reach} {base : Nat} {v : Value} {d : DataW H} {p : List MemPlace}
abbrev RW (W : World) : PV → Value → Prop := RP (fun k => k < W.heap.size) W
theorem shT_r : shT Tryz.prog 8 25 = some [.l shJ, .l shM] := by kernel_rfl
theorem shT_cs : shT Tryz.prog 8 37 = some [.l shC] := by kernel_rfl
theorem shT_b : shT Tryz.prog 8 30 = some [.l shV] := by kernel_rfl
set_option maxRecDepth 100000 in
theorem open_robot (hv : Value.okWide Tryz.prog W r base 25 v) (h : DataW.Trod enc Tryz.prog W 0 (fun _ => true) true 25 v d p) : ∃ (js : Nat → J) (ms : Nat → Ms) (n m : Nat), RW W (.a [.lf n (fJ js), .lf m (fM ms)]) v := by
 obtain ⟨ps, hr, hf⟩ := open_str Tryz.underlying25 hv h shT_r
 obtain ⟨p1, ps, rfl, f1, hf⟩ := hf.cons
 obtain ⟨p2, ps, rfl, f2, hf⟩ := hf.cons
 obtain rfl := hf.nil
 obtain ⟨n, f, rfl, g1⟩ := f1.slc
 obtain ⟨m, g, rfl, g2⟩ := f2.slc
 obtain ⟨js, hj⟩ : ∃ js : Nat → J, ∀ j, j < n → f j = fJ js j := by
  have each : ∀ j, ∃ a : J, j < n → f j = jp a := fun j => by
   by_cases hj : j < n
   ·obtain ⟨a, ha⟩ := row_J (g1 j hj); exact ⟨a, fun _ => ha⟩
   ·exact ⟨⟨ByteArray.empty, 0, 0, ⟨0, 0, 0⟩, 0, 0, 0, 0, 0, 0⟩, fun h => absurd h hj⟩
  obtain ⟨js, hjs⟩ := Classical.axiomOfChoice each
  exact ⟨js, hjs⟩
 obtain ⟨ms, hm⟩ : ∃ ms : Nat → Ms, ∀ j, j < m → g j = fM ms j := by
  have each : ∀ j, ∃ a : Ms, j < m → g j = mp a := fun j => by
   by_cases hj : j < m
   ·obtain ⟨a, ha⟩ := row_M (g2 j hj); exact ⟨a, fun _ => ha⟩
   ·exact ⟨⟨0, 0, ⟨0, 0, 0⟩⟩, fun h => absurd h hj⟩
  obtain ⟨ms, hms⟩ := Classical.axiomOfChoice each
  exact ⟨ms, hms⟩
 have s : Sames [.lf n f, .lf m g] [.lf n (fJ js), .lf m (fM ms)] := ⟨lf_same hj, lf_same hm, trivial⟩
 exact ⟨js, ms, n, m, Same.a s _ _ _ hr⟩
set_option maxRecDepth 100000 in
theorem open_cons (hv : Value.okWide Tryz.prog W r base 37 v) (h : DataW.Trod enc Tryz.prog W 0 (fun _ => true) true 37 v d p) : ∃ (cs : Nat → Cn) (c : Nat), RW W (.lf c (fC cs)) v := by
 obtain ⟨n, f, hr, hf⟩ := open_slc Tryz.underlying37 hv h shT_cs
 obtain ⟨cs, hc⟩ := lf_fn (enc := cp) (⟨0, 0, ⟨0, 0, 0⟩, ⟨0, 0, 0⟩, 0, 0⟩ : Cn) (fun _ h => row_C h) hf hr
 exact ⟨cs, n, hc⟩
set_option maxRecDepth 100000 in
theorem open_ivs (hv : Value.okWide Tryz.prog W r base 30 v) (h : DataW.Trod enc Tryz.prog W 0 (fun _ => true) true 30 v d p) : ∃ (bx : Nat → Iv) (k : Nat), RW W (.lf k (fB bx)) v := by
 obtain ⟨n, f, hr, hf⟩ := open_slc Tryz.underlying30 hv h shT_b
 obtain ⟨bx, hb⟩ := lf_fn (enc := Rx.ivC) (⟨0, 0⟩ : Iv) (fun _ h => row_V h) hf hr
 exact ⟨bx, n, hb⟩
end
end Go.Proofs.YtmbnpjpggccefaaGreat.Ni
namespace Go.Proofs.YtmbnpjpggccefaaGreat.Ax
open Go.Rx Rt
noncomputable def k107 : List (List PV × Ret) := [([.a [.n .i64 3, .n .i64 4]], .v (.b true)),
 ([.a [.n .i64 0, .n .i64 64]], .v (.b true)),
 ([.a [.n .i64 5, .n .i64 7]], .v (.b true)),
 ([.a [.n .i64 65536, .n .i64 65536]], .v (.b true)),
 ([.a [.n .i64 0, .n .i64 0]], .v (.b true)),
 ([.a [.n .i64 2, .n .i64 8]], .v (.b true))]
noncomputable def t107 : Known := (107, k107) :: ([] : Known)
theorem ok107 : Known.Ok Tryz.prog t107 := Known.add tabOk mixed (Known.nil _) (N := 60) (by kernel_rfl)
noncomputable def k134 : List (List PV × Ret) := [([.a [.n .i64 3, .n .i64 4], .a [.n .i64 0, .n .i64 64]], .v (.b true)),
 ([.a [.n .i64 5, .n .i64 7], .a [.n .i64 0, .n .i64 64]], .v (.b true)),
 ([.a [.n .i64 65536, .n .i64 65536], .a [.n .i64 65536, .n .i64 65536]], .v (.b true)),
 ([.a [.n .i64 0, .n .i64 0], .a [.n .i64 65536, .n .i64 65536]], .v (.b true)),
 ([.a [.n .i64 0, .n .i64 0], .a [.n .i64 0, .n .i64 0]], .v (.b true)),
 ([.a [.n .i64 65536, .n .i64 65536], .a [.n .i64 0, .n .i64 0]], .v (.b true)),
 ([.a [.n .i64 65536, .n .i64 65536], .a [.n .i64 3, .n .i64 4]], .v (.b true)),
 ([.a [.n .i64 0, .n .i64 0], .a [.n .i64 3, .n .i64 4]], .v (.b true)),
 ([.a [.n .i64 3, .n .i64 4], .a [.n .i64 0, .n .i64 0]], .v (.b true)),
 ([.a [.n .i64 0, .n .i64 0], .a [.n .i64 5, .n .i64 7]], .v (.b true)),
 ([.a [.n .i64 65536, .n .i64 65536], .a [.n .i64 5, .n .i64 7]], .v (.b true)),
 ([.a [.n .i64 5, .n .i64 7], .a [.n .i64 0, .n .i64 0]], .v (.b true)),
 ([.a [.n .i64 65536, .n .i64 65536], .a [.n .i64 0, .n .i64 64]], .v (.b true)),
 ([.a [.n .i64 0, .n .i64 0], .a [.n .i64 0, .n .i64 64]], .v (.b true)),
 ([.a [.n .i64 0, .n .i64 64], .a [.n .i64 0, .n .i64 0]], .v (.b true)),
 ([.a [.n .i64 0, .n .i64 0], .a [.n .i64 2, .n .i64 8]], .v (.b true)),
 ([.a [.n .i64 65536, .n .i64 65536], .a [.n .i64 2, .n .i64 8]], .v (.b true)),
 ([.a [.n .i64 2, .n .i64 8], .a [.n .i64 0, .n .i64 0]], .v (.b true))]
noncomputable def t134 : Known := (134, k134) :: t107
theorem ok134 : Known.Ok Tryz.prog t134 := Known.add tabOk mixed (ok107) (N := 60) (by kernel_rfl)
noncomputable def k145 : List (List PV × Ret) := [([.n .i64 0, .n .i64 0], .v (.a [.n .i64 0, .n .i64 0])),
 ([.n .i64 65536, .n .i64 65536], .v (.a [.n .i64 65536, .n .i64 65536])),
 ([.n .i64 3, .n .i64 4], .v (.a [.n .i64 3, .n .i64 4])),
 ([.n .i64 5, .n .i64 7], .v (.a [.n .i64 5, .n .i64 7])),
 ([.n .i64 0, .n .i64 64], .v (.a [.n .i64 0, .n .i64 64])),
 ([.n .i64 2, .n .i64 8], .v (.a [.n .i64 2, .n .i64 8]))]
noncomputable def t145 : Known := (145, k145) :: t134
theorem ok145 : Known.Ok Tryz.prog t145 := Known.add tabOk mixed (ok134) (N := 60) (by kernel_rfl)
noncomputable def k160 : List (List PV × Ret) := [([.n .i64 4294967296, .n .i64 4294967296], .v (.a [.n .i64 65536, .n .i64 65536])),
 ([.n .i64 0, .n .i64 0], .v (.a [.n .i64 0, .n .i64 0])),
 ([.n .i64 196608, .n .i64 262144], .v (.a [.n .i64 3, .n .i64 4])),
 ([.n .i64 327680, .n .i64 458752], .v (.a [.n .i64 5, .n .i64 7])),
 ([.n .i64 0, .n .i64 4194304], .v (.a [.n .i64 0, .n .i64 64])),
 ([.n .i64 131072, .n .i64 524288], .v (.a [.n .i64 2, .n .i64 8]))]
noncomputable def t160 : Known := (160, k160) :: t145
theorem ok160 : Known.Ok Tryz.prog t160 := Known.add tabOk mixed (ok145) (N := 60) (by kernel_rfl)
noncomputable def k143 : List (List PV × Ret) := [([.a [.n .i64 65536, .n .i64 65536], .a [.n .i64 65536, .n .i64 65536]], .v (.a [.n .i64 65536, .n .i64 65536])),
 ([.a [.n .i64 0, .n .i64 0], .a [.n .i64 0, .n .i64 0]], .v (.a [.n .i64 0, .n .i64 0])),
 ([.a [.n .i64 65536, .n .i64 65536], .a [.n .i64 0, .n .i64 0]], .v (.a [.n .i64 0, .n .i64 0])),
 ([.a [.n .i64 0, .n .i64 0], .a [.n .i64 65536, .n .i64 65536]], .v (.a [.n .i64 0, .n .i64 0])),
 ([.a [.n .i64 65536, .n .i64 65536], .a [.n .i64 3, .n .i64 4]], .v (.a [.n .i64 3, .n .i64 4])),
 ([.a [.n .i64 0, .n .i64 0], .a [.n .i64 3, .n .i64 4]], .v (.a [.n .i64 0, .n .i64 0])),
 ([.a [.n .i64 0, .n .i64 0], .a [.n .i64 5, .n .i64 7]], .v (.a [.n .i64 0, .n .i64 0])),
 ([.a [.n .i64 65536, .n .i64 65536], .a [.n .i64 5, .n .i64 7]], .v (.a [.n .i64 5, .n .i64 7])),
 ([.a [.n .i64 65536, .n .i64 65536], .a [.n .i64 0, .n .i64 64]], .v (.a [.n .i64 0, .n .i64 64])),
 ([.a [.n .i64 0, .n .i64 0], .a [.n .i64 0, .n .i64 64]], .v (.a [.n .i64 0, .n .i64 0])),
 ([.a [.n .i64 0, .n .i64 0], .a [.n .i64 2, .n .i64 8]], .v (.a [.n .i64 0, .n .i64 0])),
 ([.a [.n .i64 65536, .n .i64 65536], .a [.n .i64 2, .n .i64 8]], .v (.a [.n .i64 2, .n .i64 8]))]
noncomputable def t143 : Known := (143, k143) :: t160
theorem ok143 : Known.Ok Tryz.prog t143 := Known.add tabOk mixed (ok160) (N := 60) (by kernel_rfl)
noncomputable def k142 : List (List PV × Ret) := [([.a [.n .i64 0, .n .i64 0], .a [.n .i64 65536, .n .i64 65536]], .v (.a [.n .i64 65536, .n .i64 65536])),
 ([.a [.n .i64 65536, .n .i64 65536], .a [.n .i64 0, .n .i64 0]], .v (.a [.n .i64 65536, .n .i64 65536])),
 ([.a [.n .i64 0, .n .i64 0], .a [.n .i64 0, .n .i64 0]], .v (.a [.n .i64 0, .n .i64 0])),
 ([.a [.n .i64 0, .n .i64 0], .a [.n .i64 3, .n .i64 4]], .v (.a [.n .i64 3, .n .i64 4])),
 ([.a [.n .i64 3, .n .i64 4], .a [.n .i64 0, .n .i64 0]], .v (.a [.n .i64 3, .n .i64 4])),
 ([.a [.n .i64 0, .n .i64 0], .a [.n .i64 5, .n .i64 7]], .v (.a [.n .i64 5, .n .i64 7])),
 ([.a [.n .i64 5, .n .i64 7], .a [.n .i64 0, .n .i64 0]], .v (.a [.n .i64 5, .n .i64 7])),
 ([.a [.n .i64 0, .n .i64 0], .a [.n .i64 0, .n .i64 64]], .v (.a [.n .i64 0, .n .i64 64])),
 ([.a [.n .i64 0, .n .i64 64], .a [.n .i64 0, .n .i64 0]], .v (.a [.n .i64 0, .n .i64 64])),
 ([.a [.n .i64 0, .n .i64 0], .a [.n .i64 2, .n .i64 8]], .v (.a [.n .i64 2, .n .i64 8])),
 ([.a [.n .i64 2, .n .i64 8], .a [.n .i64 0, .n .i64 0]], .v (.a [.n .i64 2, .n .i64 8]))]
noncomputable def t142 : Known := (142, k142) :: t143
theorem ok142 : Known.Ok Tryz.prog t142 := Known.add tabOk mixed (ok143) (N := 60) (by kernel_rfl)
noncomputable def k97 : List (List PV × Ret) := [([.a [.n .i64 65536, .n .i64 65536, .n .i64 0, .n .i64 0, .n .i64 0, .n .i64 0, .n .i64 0, .n .i64 0, .n .i64 65536, .n .i64 65536, .n .i64 0, .n .i64 0, .n .i64 0, .n .i64 0, .n .i64 0, .n .i64 0, .n .i64 65536, .n .i64 65536], .a [.n .i64 65536, .n .i64 65536, .n .i64 0, .n .i64 0, .n .i64 0, .n .i64 0, .n .i64 0, .n .i64 0, .n .i64 65536, .n .i64 65536, .n .i64 0, .n .i64 0, .n .i64 0, .n .i64 0, .n .i64 0, .n .i64 0, .n .i64 65536, .n .i64 65536]], .v (.a [.n .i64 65536, .n .i64 65536, .n .i64 0, .n .i64 0, .n .i64 0, .n .i64 0, .n .i64 0, .n .i64 0, .n .i64 65536, .n .i64 65536, .n .i64 0, .n .i64 0, .n .i64 0, .n .i64 0, .n .i64 0, .n .i64 0, .n .i64 65536, .n .i64 65536]))]
noncomputable def t97 : Known := (97, k97) :: t142
theorem ok97 : Known.Ok Tryz.prog t97 := Known.add tabOk mixed (ok142) (N := 60) (by kernel_rfl)
noncomputable def k141 : List (List PV × Ret) := [([.a [.n .i64 65536, .n .i64 65536, .n .i64 0, .n .i64 0, .n .i64 0, .n .i64 0, .n .i64 0, .n .i64 0, .n .i64 65536, .n .i64 65536, .n .i64 0, .n .i64 0, .n .i64 0, .n .i64 0, .n .i64 0, .n .i64 0, .n .i64 65536, .n .i64 65536], .a [.n .i64 3, .n .i64 4, .n .i64 0, .n .i64 0, .n .i64 0, .n .i64 0]], .v (.a [.n .i64 3, .n .i64 4, .n .i64 0, .n .i64 0, .n .i64 0, .n .i64 0])),
 ([.a [.n .i64 65536, .n .i64 65536, .n .i64 0, .n .i64 0, .n .i64 0, .n .i64 0, .n .i64 0, .n .i64 0, .n .i64 65536, .n .i64 65536, .n .i64 0, .n .i64 0, .n .i64 0, .n .i64 0, .n .i64 0, .n .i64 0, .n .i64 65536, .n .i64 65536], .a [.n .i64 0, .n .i64 0, .n .i64 5, .n .i64 7, .n .i64 0, .n .i64 0]], .v (.a [.n .i64 0, .n .i64 0, .n .i64 5, .n .i64 7, .n .i64 0, .n .i64 0])),
 ([.a [.n .i64 65536, .n .i64 65536, .n .i64 0, .n .i64 0, .n .i64 0, .n .i64 0, .n .i64 0, .n .i64 0, .n .i64 65536, .n .i64 65536, .n .i64 0, .n .i64 0, .n .i64 0, .n .i64 0, .n .i64 0, .n .i64 0, .n .i64 65536, .n .i64 65536], .a [.n .i64 0, .n .i64 0, .n .i64 0, .n .i64 0, .n .i64 0, .n .i64 0]], .v (.a [.n .i64 0, .n .i64 0, .n .i64 0, .n .i64 0, .n .i64 0, .n .i64 0])),
 ([.a [.n .i64 65536, .n .i64 65536, .n .i64 0, .n .i64 0, .n .i64 0, .n .i64 0, .n .i64 0, .n .i64 0, .n .i64 65536, .n .i64 65536, .n .i64 0, .n .i64 0, .n .i64 0, .n .i64 0, .n .i64 0, .n .i64 0, .n .i64 65536, .n .i64 65536], .a [.n .i64 0, .n .i64 64, .n .i64 0, .n .i64 0, .n .i64 0, .n .i64 0]], .v (.a [.n .i64 0, .n .i64 64, .n .i64 0, .n .i64 0, .n .i64 0, .n .i64 0])),
 ([.a [.n .i64 65536, .n .i64 65536, .n .i64 0, .n .i64 0, .n .i64 0, .n .i64 0, .n .i64 0, .n .i64 0, .n .i64 65536, .n .i64 65536, .n .i64 0, .n .i64 0, .n .i64 0, .n .i64 0, .n .i64 0, .n .i64 0, .n .i64 65536, .n .i64 65536], .a [.n .i64 0, .n .i64 0, .n .i64 2, .n .i64 8, .n .i64 0, .n .i64 0]], .v (.a [.n .i64 0, .n .i64 0, .n .i64 2, .n .i64 8, .n .i64 0, .n .i64 0]))]
noncomputable def t141 : Known := (141, k141) :: t97
theorem ok141 : Known.Ok Tryz.prog t141 := Known.add tabOk mixed (ok97) (N := 60) (by kernel_rfl)
noncomputable def k139 : List (List PV × Ret) := [([.a [.n .i64 3, .n .i64 4, .n .i64 0, .n .i64 0, .n .i64 0, .n .i64 0], .c [.n .i64 65536, .n .i64 65536, .n .i64 0, .n .i64 0, .n .i64 0, .n .i64 0, .n .i64 0, .n .i64 0, .n .i64 65536, .n .i64 65536, .n .i64 0, .n .i64 0, .n .i64 0, .n .i64 0, .n .i64 0, .n .i64 0, .n .i64 65536, .n .i64 65536, .n .i64 0, .n .i64 0, .n .i64 0, .n .i64 0, .n .i64 0, .n .i64 0] 0], .v (.a [.n .i64 3, .n .i64 4, .n .i64 0, .n .i64 0, .n .i64 0, .n .i64 0])),
 ([.a [.n .i64 0, .n .i64 0, .n .i64 5, .n .i64 7, .n .i64 0, .n .i64 0], .c [.n .i64 65536, .n .i64 65536, .n .i64 0, .n .i64 0, .n .i64 0, .n .i64 0, .n .i64 0, .n .i64 0, .n .i64 65536, .n .i64 65536, .n .i64 0, .n .i64 0, .n .i64 0, .n .i64 0, .n .i64 0, .n .i64 0, .n .i64 65536, .n .i64 65536, .n .i64 0, .n .i64 0, .n .i64 0, .n .i64 0, .n .i64 0, .n .i64 0] 0], .v (.a [.n .i64 0, .n .i64 0, .n .i64 5, .n .i64 7, .n .i64 0, .n .i64 0])),
 ([.a [.n .i64 0, .n .i64 0, .n .i64 5, .n .i64 7, .n .i64 0, .n .i64 0], .c [.n .i64 65536, .n .i64 65536, .n .i64 0, .n .i64 0, .n .i64 0, .n .i64 0, .n .i64 0, .n .i64 0, .n .i64 65536, .n .i64 65536, .n .i64 0, .n .i64 0, .n .i64 0, .n .i64 0, .n .i64 0, .n .i64 0, .n .i64 65536, .n .i64 65536, .n .i64 3, .n .i64 4, .n .i64 0, .n .i64 0, .n .i64 0, .n .i64 0] 0], .v (.a [.n .i64 3, .n .i64 4, .n .i64 5, .n .i64 7, .n .i64 0, .n .i64 0])),
 ([.a [.n .i64 0, .n .i64 0, .n .i64 0, .n .i64 0, .n .i64 0, .n .i64 0], .c [.n .i64 65536, .n .i64 65536, .n .i64 0, .n .i64 0, .n .i64 0, .n .i64 0, .n .i64 0, .n .i64 0, .n .i64 65536, .n .i64 65536, .n .i64 0, .n .i64 0, .n .i64 0, .n .i64 0, .n .i64 0, .n .i64 0, .n .i64 65536, .n .i64 65536, .n .i64 3, .n .i64 4, .n .i64 5, .n .i64 7, .n .i64 0, .n .i64 0] 0], .v (.a [.n .i64 3, .n .i64 4, .n .i64 5, .n .i64 7, .n .i64 0, .n .i64 0])),
 ([.a [.n .i64 0, .n .i64 64, .n .i64 0, .n .i64 0, .n .i64 0, .n .i64 0], .c [.n .i64 65536, .n .i64 65536, .n .i64 0, .n .i64 0, .n .i64 0, .n .i64 0, .n .i64 0, .n .i64 0, .n .i64 65536, .n .i64 65536, .n .i64 0, .n .i64 0, .n .i64 0, .n .i64 0, .n .i64 0, .n .i64 0, .n .i64 65536, .n .i64 65536, .n .i64 0, .n .i64 0, .n .i64 0, .n .i64 0, .n .i64 0, .n .i64 0] 0], .v (.a [.n .i64 0, .n .i64 64, .n .i64 0, .n .i64 0, .n .i64 0, .n .i64 0])),
 ([.a [.n .i64 0, .n .i64 0, .n .i64 2, .n .i64 8, .n .i64 0, .n .i64 0], .c [.n .i64 65536, .n .i64 65536, .n .i64 0, .n .i64 0, .n .i64 0, .n .i64 0, .n .i64 0, .n .i64 0, .n .i64 65536, .n .i64 65536, .n .i64 0, .n .i64 0, .n .i64 0, .n .i64 0, .n .i64 0, .n .i64 0, .n .i64 65536, .n .i64 65536, .n .i64 0, .n .i64 0, .n .i64 0, .n .i64 0, .n .i64 0, .n .i64 0] 0], .v (.a [.n .i64 0, .n .i64 0, .n .i64 2, .n .i64 8, .n .i64 0, .n .i64 0])),
 ([.a [.n .i64 0, .n .i64 0, .n .i64 2, .n .i64 8, .n .i64 0, .n .i64 0], .c [.n .i64 65536, .n .i64 65536, .n .i64 0, .n .i64 0, .n .i64 0, .n .i64 0, .n .i64 0, .n .i64 0, .n .i64 65536, .n .i64 65536, .n .i64 0, .n .i64 0, .n .i64 0, .n .i64 0, .n .i64 0, .n .i64 0, .n .i64 65536, .n .i64 65536, .n .i64 0, .n .i64 64, .n .i64 0, .n .i64 0, .n .i64 0, .n .i64 0] 0], .v (.a [.n .i64 0, .n .i64 64, .n .i64 2, .n .i64 8, .n .i64 0, .n .i64 0])),
 ([.a [.n .i64 0, .n .i64 0, .n .i64 0, .n .i64 0, .n .i64 0, .n .i64 0], .c [.n .i64 65536, .n .i64 65536, .n .i64 0, .n .i64 0, .n .i64 0, .n .i64 0, .n .i64 0, .n .i64 0, .n .i64 65536, .n .i64 65536, .n .i64 0, .n .i64 0, .n .i64 0, .n .i64 0, .n .i64 0, .n .i64 0, .n .i64 65536, .n .i64 65536, .n .i64 0, .n .i64 64, .n .i64 2, .n .i64 8, .n .i64 0, .n .i64 0] 0], .v (.a [.n .i64 0, .n .i64 64, .n .i64 2, .n .i64 8, .n .i64 0, .n .i64 0]))]
noncomputable def t139 : Known := (139, k139) :: t141
theorem ok139 : Known.Ok Tryz.prog t139 := Known.add tabOk mixed (ok141) (N := 60) (by kernel_rfl)
noncomputable def k57 : List (List PV × Ret) := [([.a [.n .i64 65536, .n .i64 65536, .n .i64 0, .n .i64 0, .n .i64 0, .n .i64 0, .n .i64 0, .n .i64 0, .n .i64 65536, .n .i64 65536, .n .i64 0, .n .i64 0, .n .i64 0, .n .i64 0, .n .i64 0, .n .i64 0, .n .i64 65536, .n .i64 65536, .n .i64 0, .n .i64 0, .n .i64 0, .n .i64 0, .n .i64 0, .n .i64 0], .a [.n .i64 65536, .n .i64 65536, .n .i64 0, .n .i64 0, .n .i64 0, .n .i64 0, .n .i64 0, .n .i64 0, .n .i64 65536, .n .i64 65536, .n .i64 0, .n .i64 0, .n .i64 0, .n .i64 0, .n .i64 0, .n .i64 0, .n .i64 65536, .n .i64 65536, .n .i64 3, .n .i64 4, .n .i64 0, .n .i64 0, .n .i64 0, .n .i64 0]], .v (.a [.n .i64 65536, .n .i64 65536, .n .i64 0, .n .i64 0, .n .i64 0, .n .i64 0, .n .i64 0, .n .i64 0, .n .i64 65536, .n .i64 65536, .n .i64 0, .n .i64 0, .n .i64 0, .n .i64 0, .n .i64 0, .n .i64 0, .n .i64 65536, .n .i64 65536, .n .i64 3, .n .i64 4, .n .i64 0, .n .i64 0, .n .i64 0, .n .i64 0])),
 ([.a [.n .i64 65536, .n .i64 65536, .n .i64 0, .n .i64 0, .n .i64 0, .n .i64 0, .n .i64 0, .n .i64 0, .n .i64 65536, .n .i64 65536, .n .i64 0, .n .i64 0, .n .i64 0, .n .i64 0, .n .i64 0, .n .i64 0, .n .i64 65536, .n .i64 65536, .n .i64 0, .n .i64 0, .n .i64 0, .n .i64 0, .n .i64 0, .n .i64 0], .a [.n .i64 65536, .n .i64 65536, .n .i64 0, .n .i64 0, .n .i64 0, .n .i64 0, .n .i64 0, .n .i64 0, .n .i64 65536, .n .i64 65536, .n .i64 0, .n .i64 0, .n .i64 0, .n .i64 0, .n .i64 0, .n .i64 0, .n .i64 65536, .n .i64 65536, .n .i64 0, .n .i64 0, .n .i64 5, .n .i64 7, .n .i64 0, .n .i64 0]], .v (.a [.n .i64 65536, .n .i64 65536, .n .i64 0, .n .i64 0, .n .i64 0, .n .i64 0, .n .i64 0, .n .i64 0, .n .i64 65536, .n .i64 65536, .n .i64 0, .n .i64 0, .n .i64 0, .n .i64 0, .n .i64 0, .n .i64 0, .n .i64 65536, .n .i64 65536, .n .i64 0, .n .i64 0, .n .i64 5, .n .i64 7, .n .i64 0, .n .i64 0])),
 ([.a [.n .i64 65536, .n .i64 65536, .n .i64 0, .n .i64 0, .n .i64 0, .n .i64 0, .n .i64 0, .n .i64 0, .n .i64 65536, .n .i64 65536, .n .i64 0, .n .i64 0, .n .i64 0, .n .i64 0, .n .i64 0, .n .i64 0, .n .i64 65536, .n .i64 65536, .n .i64 3, .n .i64 4, .n .i64 0, .n .i64 0, .n .i64 0, .n .i64 0], .a [.n .i64 65536, .n .i64 65536, .n .i64 0, .n .i64 0, .n .i64 0, .n .i64 0, .n .i64 0, .n .i64 0, .n .i64 65536, .n .i64 65536, .n .i64 0, .n .i64 0, .n .i64 0, .n .i64 0, .n .i64 0, .n .i64 0, .n .i64 65536, .n .i64 65536, .n .i64 0, .n .i64 0, .n .i64 5, .n .i64 7, .n .i64 0, .n .i64 0]], .v (.a [.n .i64 65536, .n .i64 65536, .n .i64 0, .n .i64 0, .n .i64 0, .n .i64 0, .n .i64 0, .n .i64 0, .n .i64 65536, .n .i64 65536, .n .i64 0, .n .i64 0, .n .i64 0, .n .i64 0, .n .i64 0, .n .i64 0, .n .i64 65536, .n .i64 65536, .n .i64 3, .n .i64 4, .n .i64 5, .n .i64 7, .n .i64 0, .n .i64 0])),
 ([.a [.n .i64 65536, .n .i64 65536, .n .i64 0, .n .i64 0, .n .i64 0, .n .i64 0, .n .i64 0, .n .i64 0, .n .i64 65536, .n .i64 65536, .n .i64 0, .n .i64 0, .n .i64 0, .n .i64 0, .n .i64 0, .n .i64 0, .n .i64 65536, .n .i64 65536, .n .i64 0, .n .i64 0, .n .i64 0, .n .i64 0, .n .i64 0, .n .i64 0], .a [.n .i64 65536, .n .i64 65536, .n .i64 0, .n .i64 0, .n .i64 0, .n .i64 0, .n .i64 0, .n .i64 0, .n .i64 65536, .n .i64 65536, .n .i64 0, .n .i64 0, .n .i64 0, .n .i64 0, .n .i64 0, .n .i64 0, .n .i64 65536, .n .i64 65536, .n .i64 0, .n .i64 64, .n .i64 0, .n .i64 0, .n .i64 0, .n .i64 0]], .v (.a [.n .i64 65536, .n .i64 65536, .n .i64 0, .n .i64 0, .n .i64 0, .n .i64 0, .n .i64 0, .n .i64 0, .n .i64 65536, .n .i64 65536, .n .i64 0, .n .i64 0, .n .i64 0, .n .i64 0, .n .i64 0, .n .i64 0, .n .i64 65536, .n .i64 65536, .n .i64 0, .n .i64 64, .n .i64 0, .n .i64 0, .n .i64 0, .n .i64 0])),
 ([.a [.n .i64 65536, .n .i64 65536, .n .i64 0, .n .i64 0, .n .i64 0, .n .i64 0, .n .i64 0, .n .i64 0, .n .i64 65536, .n .i64 65536, .n .i64 0, .n .i64 0, .n .i64 0, .n .i64 0, .n .i64 0, .n .i64 0, .n .i64 65536, .n .i64 65536, .n .i64 0, .n .i64 0, .n .i64 0, .n .i64 0, .n .i64 0, .n .i64 0], .a [.n .i64 65536, .n .i64 65536, .n .i64 0, .n .i64 0, .n .i64 0, .n .i64 0, .n .i64 0, .n .i64 0, .n .i64 65536, .n .i64 65536, .n .i64 0, .n .i64 0, .n .i64 0, .n .i64 0, .n .i64 0, .n .i64 0, .n .i64 65536, .n .i64 65536, .n .i64 0, .n .i64 0, .n .i64 2, .n .i64 8, .n .i64 0, .n .i64 0]], .v (.a [.n .i64 65536, .n .i64 65536, .n .i64 0, .n .i64 0, .n .i64 0, .n .i64 0, .n .i64 0, .n .i64 0, .n .i64 65536, .n .i64 65536, .n .i64 0, .n .i64 0, .n .i64 0, .n .i64 0, .n .i64 0, .n .i64 0, .n .i64 65536, .n .i64 65536, .n .i64 0, .n .i64 0, .n .i64 2, .n .i64 8, .n .i64 0, .n .i64 0])),
 ([.a [.n .i64 65536, .n .i64 65536, .n .i64 0, .n .i64 0, .n .i64 0, .n .i64 0, .n .i64 0, .n .i64 0, .n .i64 65536, .n .i64 65536, .n .i64 0, .n .i64 0, .n .i64 0, .n .i64 0, .n .i64 0, .n .i64 0, .n .i64 65536, .n .i64 65536, .n .i64 0, .n .i64 64, .n .i64 0, .n .i64 0, .n .i64 0, .n .i64 0], .a [.n .i64 65536, .n .i64 65536, .n .i64 0, .n .i64 0, .n .i64 0, .n .i64 0, .n .i64 0, .n .i64 0, .n .i64 65536, .n .i64 65536, .n .i64 0, .n .i64 0, .n .i64 0, .n .i64 0, .n .i64 0, .n .i64 0, .n .i64 65536, .n .i64 65536, .n .i64 0, .n .i64 0, .n .i64 2, .n .i64 8, .n .i64 0, .n .i64 0]], .v (.a [.n .i64 65536, .n .i64 65536, .n .i64 0, .n .i64 0, .n .i64 0, .n .i64 0, .n .i64 0, .n .i64 0, .n .i64 65536, .n .i64 65536, .n .i64 0, .n .i64 0, .n .i64 0, .n .i64 0, .n .i64 0, .n .i64 0, .n .i64 65536, .n .i64 65536, .n .i64 0, .n .i64 64, .n .i64 2, .n .i64 8, .n .i64 0, .n .i64 0]))]
noncomputable def t57 : Known := (57, k57) :: t139
theorem ok57 : Known.Ok Tryz.prog t57 := Known.add tabOk mixed (ok139) (N := 60) (by kernel_rfl)
noncomputable def k30 : List (List PV × Ret) := [([.a [.s (ByteArray.mk #[97]), .n .i64 4, .n .i64 (-1), .n .i64 0, .n .i64 0, .n .i64 0, .n .i64 0, .n .i64 64, .n .i64 1, .n .i64 65536, .n .i64 65536, .n .i64 65536], .a [.n .i64 3, .n .i64 4]], .v (.a [.n .i64 65536, .n .i64 65536, .n .i64 0, .n .i64 0, .n .i64 0, .n .i64 0, .n .i64 0, .n .i64 0, .n .i64 65536, .n .i64 65536, .n .i64 0, .n .i64 0, .n .i64 0, .n .i64 0, .n .i64 0, .n .i64 0, .n .i64 65536, .n .i64 65536, .n .i64 3, .n .i64 4, .n .i64 0, .n .i64 0, .n .i64 0, .n .i64 0])),
 ([.a [.s (ByteArray.mk #[98]), .n .i64 5, .n .i64 0, .n .i64 0, .n .i64 0, .n .i64 0, .n .i64 0, .n .i64 64, .n .i64 1, .n .i64 65536, .n .i64 65536, .n .i64 65536], .a [.n .i64 5, .n .i64 7]], .v (.a [.n .i64 65536, .n .i64 65536, .n .i64 0, .n .i64 0, .n .i64 0, .n .i64 0, .n .i64 0, .n .i64 0, .n .i64 65536, .n .i64 65536, .n .i64 0, .n .i64 0, .n .i64 0, .n .i64 0, .n .i64 0, .n .i64 0, .n .i64 65536, .n .i64 65536, .n .i64 0, .n .i64 0, .n .i64 5, .n .i64 7, .n .i64 0, .n .i64 0])),
 ([.a [.s (ByteArray.mk #[97]), .n .i64 4, .n .i64 (-1), .n .i64 0, .n .i64 0, .n .i64 0, .n .i64 0, .n .i64 64, .n .i64 1, .n .i64 65536, .n .i64 65536, .n .i64 65536], .a [.n .i64 0, .n .i64 64]], .v (.a [.n .i64 65536, .n .i64 65536, .n .i64 0, .n .i64 0, .n .i64 0, .n .i64 0, .n .i64 0, .n .i64 0, .n .i64 65536, .n .i64 65536, .n .i64 0, .n .i64 0, .n .i64 0, .n .i64 0, .n .i64 0, .n .i64 0, .n .i64 65536, .n .i64 65536, .n .i64 0, .n .i64 64, .n .i64 0, .n .i64 0, .n .i64 0, .n .i64 0])),
 ([.a [.s (ByteArray.mk #[98]), .n .i64 5, .n .i64 0, .n .i64 0, .n .i64 0, .n .i64 0, .n .i64 0, .n .i64 64, .n .i64 1, .n .i64 65536, .n .i64 65536, .n .i64 65536], .a [.n .i64 2, .n .i64 8]], .v (.a [.n .i64 65536, .n .i64 65536, .n .i64 0, .n .i64 0, .n .i64 0, .n .i64 0, .n .i64 0, .n .i64 0, .n .i64 65536, .n .i64 65536, .n .i64 0, .n .i64 0, .n .i64 0, .n .i64 0, .n .i64 0, .n .i64 0, .n .i64 65536, .n .i64 65536, .n .i64 0, .n .i64 0, .n .i64 2, .n .i64 8, .n .i64 0, .n .i64 0]))]
noncomputable def t30 : Known := (30, k30) :: t57
theorem ok30 : Known.Ok Tryz.prog t30 := Known.add tabOk mixed (ok57) (N := 60) (by kernel_rfl)
noncomputable def k65 : List (List PV × Ret) := [([.a [.l [[.s (ByteArray.mk #[97]), .n .i64 4, .n .i64 (-1), .n .i64 0, .n .i64 0, .n .i64 0, .n .i64 0, .n .i64 64, .n .i64 1, .n .i64 65536, .n .i64 65536, .n .i64 65536], [.s (ByteArray.mk #[98]), .n .i64 5, .n .i64 0, .n .i64 0, .n .i64 0, .n .i64 0, .n .i64 0, .n .i64 64, .n .i64 1, .n .i64 65536, .n .i64 65536, .n .i64 65536]], .l []], .l [[.n .i64 3, .n .i64 4], [.n .i64 5, .n .i64 7]]], .ow 77 24 (.l [[.n .i64 65536, .n .i64 65536, .n .i64 0, .n .i64 0, .n .i64 0, .n .i64 0, .n .i64 0, .n .i64 0, .n .i64 65536, .n .i64 65536, .n .i64 0, .n .i64 0, .n .i64 0, .n .i64 0, .n .i64 0, .n .i64 0, .n .i64 65536, .n .i64 65536, .n .i64 3, .n .i64 4, .n .i64 0, .n .i64 0, .n .i64 0, .n .i64 0], [.n .i64 65536, .n .i64 65536, .n .i64 0, .n .i64 0, .n .i64 0, .n .i64 0, .n .i64 0, .n .i64 0, .n .i64 65536, .n .i64 65536, .n .i64 0, .n .i64 0, .n .i64 0, .n .i64 0, .n .i64 0, .n .i64 0, .n .i64 65536, .n .i64 65536, .n .i64 3, .n .i64 4, .n .i64 5, .n .i64 7, .n .i64 0, .n .i64 0]])),
 ([.a [.l [[.s (ByteArray.mk #[97]), .n .i64 4, .n .i64 (-1), .n .i64 0, .n .i64 0, .n .i64 0, .n .i64 0, .n .i64 64, .n .i64 1, .n .i64 65536, .n .i64 65536, .n .i64 65536], [.s (ByteArray.mk #[98]), .n .i64 5, .n .i64 0, .n .i64 0, .n .i64 0, .n .i64 0, .n .i64 0, .n .i64 64, .n .i64 1, .n .i64 65536, .n .i64 65536, .n .i64 65536]], .l []], .l [[.n .i64 0, .n .i64 64], [.n .i64 2, .n .i64 8]]], .ow 77 24 (.l [[.n .i64 65536, .n .i64 65536, .n .i64 0, .n .i64 0, .n .i64 0, .n .i64 0, .n .i64 0, .n .i64 0, .n .i64 65536, .n .i64 65536, .n .i64 0, .n .i64 0, .n .i64 0, .n .i64 0, .n .i64 0, .n .i64 0, .n .i64 65536, .n .i64 65536, .n .i64 0, .n .i64 64, .n .i64 0, .n .i64 0, .n .i64 0, .n .i64 0], [.n .i64 65536, .n .i64 65536, .n .i64 0, .n .i64 0, .n .i64 0, .n .i64 0, .n .i64 0, .n .i64 0, .n .i64 65536, .n .i64 65536, .n .i64 0, .n .i64 0, .n .i64 0, .n .i64 0, .n .i64 0, .n .i64 0, .n .i64 65536, .n .i64 65536, .n .i64 0, .n .i64 64, .n .i64 2, .n .i64 8, .n .i64 0, .n .i64 0]]))]
noncomputable def t65 : Known := (65, k65) :: t30
theorem ok65 : Known.Ok Tryz.prog t65 := Known.add tabOk mixed (ok30) (N := 60) (by kernel_rfl)
noncomputable def k35 : List (List PV × Ret) := [([.a [.l [[.s (ByteArray.mk #[97]), .n .i64 4, .n .i64 (-1), .n .i64 0, .n .i64 0, .n .i64 0, .n .i64 0, .n .i64 64, .n .i64 1, .n .i64 65536, .n .i64 65536, .n .i64 65536], [.s (ByteArray.mk #[98]), .n .i64 5, .n .i64 0, .n .i64 0, .n .i64 0, .n .i64 0, .n .i64 0, .n .i64 64, .n .i64 1, .n .i64 65536, .n .i64 65536, .n .i64 65536]], .l []], .l [[.n .i64 3, .n .i64 4], [.n .i64 5, .n .i64 7]]], .v (.l [[.n .i64 65536, .n .i64 65536, .n .i64 0, .n .i64 0, .n .i64 0, .n .i64 0, .n .i64 0, .n .i64 0, .n .i64 65536, .n .i64 65536, .n .i64 0, .n .i64 0, .n .i64 0, .n .i64 0, .n .i64 0, .n .i64 0, .n .i64 65536, .n .i64 65536, .n .i64 3, .n .i64 4, .n .i64 0, .n .i64 0, .n .i64 0, .n .i64 0], [.n .i64 65536, .n .i64 65536, .n .i64 0, .n .i64 0, .n .i64 0, .n .i64 0, .n .i64 0, .n .i64 0, .n .i64 65536, .n .i64 65536, .n .i64 0, .n .i64 0, .n .i64 0, .n .i64 0, .n .i64 0, .n .i64 0, .n .i64 65536, .n .i64 65536, .n .i64 3, .n .i64 4, .n .i64 5, .n .i64 7, .n .i64 0, .n .i64 0]])),
 ([.a [.l [[.s (ByteArray.mk #[97]), .n .i64 4, .n .i64 (-1), .n .i64 0, .n .i64 0, .n .i64 0, .n .i64 0, .n .i64 64, .n .i64 1, .n .i64 65536, .n .i64 65536, .n .i64 65536], [.s (ByteArray.mk #[98]), .n .i64 5, .n .i64 0, .n .i64 0, .n .i64 0, .n .i64 0, .n .i64 0, .n .i64 64, .n .i64 1, .n .i64 65536, .n .i64 65536, .n .i64 65536]], .l []], .l [[.n .i64 0, .n .i64 64], [.n .i64 2, .n .i64 8]]], .v (.l [[.n .i64 65536, .n .i64 65536, .n .i64 0, .n .i64 0, .n .i64 0, .n .i64 0, .n .i64 0, .n .i64 0, .n .i64 65536, .n .i64 65536, .n .i64 0, .n .i64 0, .n .i64 0, .n .i64 0, .n .i64 0, .n .i64 0, .n .i64 65536, .n .i64 65536, .n .i64 0, .n .i64 64, .n .i64 0, .n .i64 0, .n .i64 0, .n .i64 0], [.n .i64 65536, .n .i64 65536, .n .i64 0, .n .i64 0, .n .i64 0, .n .i64 0, .n .i64 0, .n .i64 0, .n .i64 65536, .n .i64 65536, .n .i64 0, .n .i64 0, .n .i64 0, .n .i64 0, .n .i64 0, .n .i64 0, .n .i64 65536, .n .i64 65536, .n .i64 0, .n .i64 64, .n .i64 2, .n .i64 8, .n .i64 0, .n .i64 0]]))]
noncomputable def t35 : Known := (35, k35) :: t65
theorem ok35 : Known.Ok Tryz.prog t35 := Known.add tabOk mixed (ok65) (N := 60) (by kernel_rfl)
noncomputable def k53 : List (List PV × Ret) := [([.a [.l [[.s (ByteArray.mk #[97]), .n .i64 4, .n .i64 (-1), .n .i64 0, .n .i64 0, .n .i64 0, .n .i64 0, .n .i64 64, .n .i64 1, .n .i64 65536, .n .i64 65536, .n .i64 65536], [.s (ByteArray.mk #[98]), .n .i64 5, .n .i64 0, .n .i64 0, .n .i64 0, .n .i64 0, .n .i64 0, .n .i64 64, .n .i64 1, .n .i64 65536, .n .i64 65536, .n .i64 65536]], .l []], .l [[.n .i64 0, .n .i64 1, .n .i64 0, .n .i64 0, .n .i64 0, .n .i64 0, .n .i64 1, .n .i64 0, .n .i64 0, .n .i64 9]], .l [[.n .i64 3, .n .i64 4], [.n .i64 5, .n .i64 7]]], .ow 52 2 (.l [[.n .i64 5, .n .i64 7]])),
 ([.a [.l [[.s (ByteArray.mk #[97]), .n .i64 4, .n .i64 (-1), .n .i64 0, .n .i64 0, .n .i64 0, .n .i64 0, .n .i64 64, .n .i64 1, .n .i64 65536, .n .i64 65536, .n .i64 65536], [.s (ByteArray.mk #[98]), .n .i64 5, .n .i64 0, .n .i64 0, .n .i64 0, .n .i64 0, .n .i64 0, .n .i64 64, .n .i64 1, .n .i64 65536, .n .i64 65536, .n .i64 65536]], .l []], .l [[.n .i64 0, .n .i64 1, .n .i64 0, .n .i64 0, .n .i64 0, .n .i64 0, .n .i64 1, .n .i64 0, .n .i64 0, .n .i64 9]], .l [[.n .i64 0, .n .i64 64], [.n .i64 2, .n .i64 8]]], .ow 52 2 (.l [[.n .i64 2, .n .i64 8]]))]
noncomputable def t53 : Known := (53, k53) :: t35
theorem ok53 : Known.Ok Tryz.prog t53 := Known.add tabOk mixed (ok35) (N := 60) (by kernel_rfl)
noncomputable def k22 : List (List PV × Ret) := [([.a [.l [[.s (ByteArray.mk #[97]), .n .i64 4, .n .i64 (-1), .n .i64 0, .n .i64 0, .n .i64 0, .n .i64 0, .n .i64 64, .n .i64 1, .n .i64 65536, .n .i64 65536, .n .i64 65536], [.s (ByteArray.mk #[98]), .n .i64 5, .n .i64 0, .n .i64 0, .n .i64 0, .n .i64 0, .n .i64 0, .n .i64 64, .n .i64 1, .n .i64 65536, .n .i64 65536, .n .i64 65536]], .l []], .a [.n .i64 0, .n .i64 1, .n .i64 0, .n .i64 0, .n .i64 0, .n .i64 0, .n .i64 1, .n .i64 0, .n .i64 0, .n .i64 9], .l [[.n .i64 3, .n .i64 4], [.n .i64 5, .n .i64 7]]], .v (.t [.a [.n .i64 5, .n .i64 7], .b true]))]
noncomputable def t22 : Known := (22, k22) :: t53
theorem ok22 : Known.Ok Tryz.prog t22 := Known.add tabOk mixed (ok53) (N := 60) (by kernel_rfl)
noncomputable def k41 : List (List PV × Ret) := [([.a [.l [[.s (ByteArray.mk #[97]), .n .i64 4, .n .i64 (-1), .n .i64 0, .n .i64 0, .n .i64 0, .n .i64 0, .n .i64 64, .n .i64 1, .n .i64 65536, .n .i64 65536, .n .i64 65536], [.s (ByteArray.mk #[98]), .n .i64 5, .n .i64 0, .n .i64 0, .n .i64 0, .n .i64 0, .n .i64 0, .n .i64 64, .n .i64 1, .n .i64 65536, .n .i64 65536, .n .i64 65536]], .l []], .l [[.n .i64 0, .n .i64 1, .n .i64 0, .n .i64 0, .n .i64 0, .n .i64 0, .n .i64 1, .n .i64 0, .n .i64 0, .n .i64 9]], .l [[.n .i64 0], [.n .i64 2]], .l [[.n .i64 64], [.n .i64 8]], .n .i64 4], .v (.a [.n .i64 1, .l [[.n .i64 0, .n .i64 0, .l []]], .n .i64 0, .n .i64 0, .l [], .n .i64 0, .l [], .l []]))]
noncomputable def t41 : Known := (41, k41) :: t22
theorem ok41 : Known.Ok Tryz.prog t41 := Known.add tabOk mixed (ok22) (N := 60) (by kernel_rfl)
theorem call : SndA1 Tryz.prog 12 [] (.v (.b true)) := run_sound (N := 60) tabOk mixed (Known.ok (ok41)) (by kernel_rfl : run T (Known.orc t41) 60 12 [] = some (.v (.b true)))
end Go.Proofs.YtmbnpjpggccefaaGreat.Ax
namespace Go.Rx
open Go.RowKit Go.Sx Go.ChangeShapes Go.WideShapes
section
variable {P : Program} {W : World} {H : Type} {enc : TypeId × Value → H}
def ListArg (W : World) (v : Value) (L : List Int) : Prop := RP (fun k => k < W.heap.size) W (intsP L) v ∧ L.length ≤ 9223372036854775807 ∧ ∀ x ∈ L, In64 x
theorem open_rp {t e : TypeId} {v : Value} {d : DataW H} {p : List MemPlace} (ht : P.underlying t = some (.slice e)) (he : P.underlying e = some (.int .i64)) (hc : P.cellsOf e = 1)
  {r : Reach} {base : Nat} (hv : Value.okWide P W r base t v) (h : DataW.Trod enc P W 0 (fun _ => true) true t v d p) : ∃ L : List Int, ListArg W v L := by
 obtain ⟨a, l, c, rfl⟩ := slice_of ht hv
 obtain ⟨fuel, h⟩ := h
 have h' : DataW.trod enc P W 0 (fun _ => true) true fuel t [.slice a l c] = some (d, p) := h
 rcases open_ints ht he hc h' with ⟨h1, _⟩ | ⟨a', len, cap, zs, h1, _, hlc, hcap, hz, _, hcell, hwf⟩
 ·simp at h1
  obtain ⟨rfl, rfl, rfl⟩ := h1
  exact ⟨[], .l0 none 0, by simp, fun x hx => by cases hx⟩
 ·simp at h1
  obtain ⟨rfl, rfl, rfl⟩ := h1
  simp only [if_true] at hz
  have hlen : (zs.take l).length = l := by simp; omega
  have hI : IntsAt W W.heap.size (.slice (some a') l c) (zs.take l) := ⟨by have : maxLen = 9223372036854775807 := rfl; omega, some a', c, by rw [hlen], fun j hj => by
   rw [hlen] at hj
   have h0 := hcell 0 (by omega)
   have hj' := hcell j (by omega)
   have hsp : a'.spot = none := by
    have e : a'.add 0 = a' := by simp [Addr.add]
    rw [e] at h0
    unfold World.cell? at h0
    cases hb : W.heap[a'.block]? with
    | none => simp [hb] at h0
    | some o => cases o <;> simp [hb] at h0; exact h0.1
   obtain ⟨bb, off, sp⟩ := a'
   simp only at hsp
   subst hsp
   rw [qUY] at hj'
   refine ⟨bb, off, rfl, ?_, ?_⟩
   ·unfold World.cell? at hj'
    cases hb : W.heap[bb]? with
    | none => simp [hb] at hj'
    | some o => exact uH hb
   ·rw [hj']
    simp [List.getD_eq_getElem?_getD, List.getElem?_take, hj]⟩
  refine ⟨zs.take l, ?_, hI.1, fun x hx => ?_⟩
  ·have := rp_of_ints (F := fun k => k < W.heap.size) (w := W) (L := zs.take l) (a := some a') (c := c) (by rw [hlen]; exact hI) (by rw [hlen]; exact hlc) fun k hk => hk
   rw [hlen] at this
   exact this
  ·have := hwf x (List.mem_of_mem_take hx)
   simpa [Lit.wf, IntKind.has, IntKind.min, IntKind.max, IntKind.signed, IntKind.bits, In64] using this
end
end Go.Rx
namespace Go.Proofs.YtmbnpjpggccefaaGreat
open Go.Rx Go.Sx Go.RowKit Nb Nd Nx
theorem wManifoldDecides (v0 : Value) (js0 : Nat → J) (ms0 : Nat → Ms) (n0 m0 : Nat) (v1 : Value) (cs1 : Nat → Cn) (c1 : Nat) (v2 : Value) (bx2 : Nat → Iv) (k2 : Nat) (v3 : Value) (L3 : List Int) (v4 : Value) (L4 : List Int) (v5 : Value) (L5 : List Int) (a6 : Int) (W : World) (h0 : RP (fun k => k < W.heap.size) W (.a [.lf n0 (fJ js0), .lf m0 (fM ms0)]) v0) (h1 : RP (fun k => k < W.heap.size) W (.lf c1 (fC cs1)) v1) (h2 : RP (fun k => k < W.heap.size) W (.lf k2 (fB bx2)) v2) (h3 : ListArg W v3 L3) (h4 : ListArg W v4 L4) (h5 : ListArg W v5 L5) : Calls Tryz.prog 5 #[v0, v1, v2, v3, v4, v5, .int .i64 a6] W (Rets (.bool true) W) :=
 rets_of_sndR (Nk.snd_law _ _ _ _ _ _ _ _ _ _ _ _  h3.2.1 h4.2.1 h5.2.1 Ax.call) rfl (qWW h0 (qWW h1 (qWW h2 (qWW h3.1 (qWW h4.1 (qWW h5.1 (qWW (.n _ _) al_nil)))))))
end Go.Proofs.YtmbnpjpggccefaaGreat

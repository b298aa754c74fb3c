/- From a law's walk to its row, for any program: arguments opened by their types, the row's last step. No condition. -/
import Derived.Test.YtonampcmhhhffaaVDat
import Derived.ProofKit
import Derived.OpenShut
namespace Go.Sx
open Go.RowKit Go.ChangeShapes Go.WideShapes

section
variable {P : Program} {W : World} {r : Reach} {base : Nat}

theorem open_i64 {t : TypeId} {v : Value} (hu : P.underlying t = some (.int .i64)) (h : Value.okWide P W r base t v) : ∃ n, v = .int .i64 n ∧ In64 n := by
  simp only [Value.okWide, hu, Cell.okWide] at h
  cases v <;> simp [Cell.ok, hu] at h
  obtain ⟨rfl, h1⟩ := h
  exact ⟨_, rfl, by simpa [IntKind.has, IntKind.min, IntKind.max, IntKind.signed, IntKind.bits, In64] using h1⟩
theorem open_bool1 {t : TypeId} {v : Value} (hu : P.underlying t = some .bool) (h : Value.okWide P W r base t v) : ∃ b, v = .bool b := by
  simp only [Value.okWide, hu, Cell.okWide] at h
  cases v <;> simp [Cell.ok, hu] at h
  exact ⟨_, rfl⟩

/-- a struct or an array of int64 numbers alone, of k cells -/
def flatB (P : Program) (t k : Nat) : Bool :=
  (match P.underlying t with | some (.struct _) => true | some (.array _ _) => true | _ => false) && Nat.beq (P.cellsOf t) k &&
  (match P.cellTypes P.depth t with | some ts => Nat.blt 0 ts.length && ts.all (fun u => match P.underlying u with | some (.int .i64) => true | _ => false) | none => false)

theorem open_flat {t k : Nat} {v : Value} (hf : flatB P t k = true) (h : Value.okWide P W r base t v) : ∃ ns : List Int, v = .agg (ns.map (.int .i64)).toArray ∧ ns.length = k ∧ ∀ n ∈ ns, In64 n := by
  simp only [flatB, Bool.and_eq_true] at hf
  obtain ⟨⟨h1, h2⟩, h3⟩ := hf
  have h2' := Nat.eq_of_beq_eq_true h2
  have hcs : ∃ cs, v = .agg cs ∧ cs.size = P.cellsOf t ∧ Row.okWide P W r base t cs := by
    unfold Value.okWide at h
    cases hu : P.underlying t with
    | none => simp [hu] at h1
    | some ds => cases ds <;> simp [hu] at h1 h <;> exact h
  obtain ⟨cs, rfl, hsz, ts, hts, _, hall⟩ := hcs
  rw [hts] at h3
  simp only [Bool.and_eq_true] at h3
  have hcell : ∀ c ∈ cs.toList, ∃ n, c = .int .i64 n ∧ In64 n := fun c hc => by
    obtain ⟨i, hi⟩ := List.mem_iff_getElem?.1 hc
    obtain ⟨u, hu, hok⟩ := hall i c (by simpa using hi)
    have := List.all_eq_true.1 h3.2 u (List.mem_of_getElem? hu)
    cases hd : P.underlying u with
    | none => simp [hd] at this
    | some ds =>
      have : ds = .int .i64 := by
        cases ds <;> simp [hd] at this
        rename_i k
        cases k <;> simp at this
        rfl
      subst this
      exact open_i64 (W := W) (r := r) (base := base) hd (by simp only [Value.okWide, hd]; exact hok)
  have hlist : ∀ l : List Value, (∀ c ∈ l, ∃ n, c = .int .i64 n ∧ In64 n) → ∃ ns : List Int, l = ns.map (.int .i64) ∧ ∀ n ∈ ns, In64 n := by
    intro l
    induction l with
    | nil => intro _; exact ⟨[], rfl, fun _ h => by cases h⟩
    | cons c l ih =>
      intro hl
      obtain ⟨n, rfl, hn⟩ := hl _ List.mem_cons_self
      obtain ⟨ns, rfl, hns⟩ := ih fun c hc => hl c (List.mem_cons_of_mem _ hc)
      exact ⟨n :: ns, rfl, fun m hm => by
        rcases List.mem_cons.1 hm with rfl | hm
        · exact hn
        · exact hns m hm⟩
  obtain ⟨ns, hns, hin⟩ := hlist cs.toList hcell
  refine ⟨ns, ?_, ?_, hin⟩
  · rw [← hns]
  · have := congrArg List.length hns
    simp at this
    omega

theorem len_cons {α : Type} {l : List α} {n : Nat} (h : l.length = n + 1) : ∃ a t, l = a :: t ∧ t.length = n := by
  cases l with
  | nil => simp at h
  | cons a t => exact ⟨a, t, rfl, by simpa using h⟩
theorem len_nil {α : Type} {l : List α} (h : l.length = 0) : l = [] := List.length_eq_zero_iff.1 h

variable {H : Type} {enc : TypeId × Value → H}
def readB (P : Program) (ts : List TypeId) : Bool := ts.all fun t => P.readableRec t && decide (t < P.types.size)

theorem trodAll_below (hl : laidOutB P = true) {W' : World} (hb : Below W.heap.size W W') : ∀ {ts : List TypeId} {vs : List Value} {ds : List (DataW H)} {ps : List MemPlace}, readB P ts = true →
    DataW.TrodAll enc P W 0 (fun _ => true) true ts vs ds ps → (∀ x ∈ ps, x.block < W.heap.size) → DataW.TrodAll enc P W' 0 (fun b => decide (b < W.heap.size)) true ts vs ds ps
  | [], vs, ds, ps, _, h, _ => by
    obtain ⟨rfl, rfl, rfl⟩ := trodAll_nil h
    exact trodAll_mk0
  | t :: ts, vs, ds, ps, hr, h, hlt => by
    obtain ⟨v, vs', d, ds', p, q, rfl, rfl, rfl, h1, h2⟩ := trodAll_cons h
    simp only [readB, List.all_cons, Bool.and_eq_true, decide_eq_true_eq] at hr
    exact trodAll_cons_mk (Below.trod hl hr.1.1 hr.1.2 h1 hb fun x hx => hlt x (List.mem_append_left _ hx))
      (trodAll_below hl hb hr.2 h2 fun x hx => hlt x (List.mem_append_right _ hx))

theorem law_post {f : Func} {s : ChangeSpec} {apart fresh handsOn : Bool} {W' : World} {args : Array Value} {ds : List (DataW H)} {before : List MemPlace} {tb : TypeId}
    (hW : DataW.Whole enc P f.params.toList s.vars apart W args.toList ds [] before) (hvs : s.vars = []) (hl : laidOutB P = true) (hr : readB P f.params.toList = true) (hargs : (s.fn H (ds ++ [])).args = ds)
    (hres : (s.fn H (ds ++ [])).results = [.lit (.bool true)]) (hv : (s.fn H (ds ++ [])).vars = []) (hrt : f.resultTypes = #[tb]) (hub : P.underlying tb = some .bool) (hb : Below W.heap.size W W') :
    s.post enc P f apart fresh handsOn false W args (.bool true) W' := by
  have hlt : ∀ p ∈ before, p.block < W.heap.size := fun p hp => hW.lt p hp
  have hW2 := hW
  obtain ⟨p, q, hA, hV, rfl, _, _⟩ := hW2
  rw [hvs] at hV
  obtain ⟨_, rfl⟩ := trodVars_none hV
  refine ⟨ds, [], p ++ [], [], p, [], hW, ?_, ?_, ?_, World.keptBut_mono (fun x hx => ⟨hx, Or.inr (Or.inl (by simpa using hx))⟩) (hb.frame (· ∈ p ++ [])), fun h => by cases h⟩
  · rw [hres, hrt]
    exact trodAll_mk1 (shut_bool hub true)
  · rw [hargs]
    exact trodAll_below hl hb hr hA fun x hx => hlt x (by simpa using hx)
  · rw [hv, hvs]
    exact rfl
end
end Go.Sx

/- An argument that is a struct of one string and numbers, opened. No condition. -/
import Derived.Test.YtonampcmhhhffaaVLawS
import Derived.WideShapes
namespace Go.Sx
open Go.RowKit Go.ChangeShapes Go.WideShapes
section
variable {P : Program} {W : World} {r : Reach} {base : Nat}
def sflatB (P : Program) (t k : Nat) : Bool :=
  (match P.underlying t with | some (.struct _) => true | some (.array _ _) => true | _ => false) && Nat.beq (P.cellsOf t) (k + 1) &&
  (match P.cellTypes P.depth t with
    | some (s :: ts) => (match P.underlying s with | some .string => true | _ => false) && Nat.beq ts.length k && ts.all (fun u => match P.underlying u with | some (.int .i64) => true | _ => false)
    | _ => false)
theorem open_sflat {t k : Nat} {v : Value} (hf : sflatB P t k = true) (h : Value.okWide P W r base t v) : ∃ (s : ByteArray) (ns : List Int), v = .agg (.string s :: ns.map (.int .i64)).toArray ∧ ns.length = k ∧ ∀ n ∈ ns, In64 n := by
  simp only [sflatB, Bool.and_eq_true] at hf
  obtain ⟨⟨h1, h2⟩, h3⟩ := hf
  have h2' := Nat.eq_of_beq_eq_true h2
  have hcs : ∃ cs, v = .agg cs ∧ cs.size = P.cellsOf t ∧ Row.okWide P W r base t cs := by
    unfold Value.okWide at h
    cases hu : P.underlying t with
    | none => simp [hu] at h1
    | some ds => cases ds <;> simp [hu] at h1 h <;> exact h
  obtain ⟨cs, rfl, hsz, ts0, hts, _, hall⟩ := hcs
  rw [hts] at h3
  cases ts0 with
  | nil => simp at h3
  | cons s ts =>
  simp only [Bool.and_eq_true] at h3
  obtain ⟨⟨hs, hlen⟩, hi64⟩ := h3
  have hlen' := Nat.eq_of_beq_eq_true hlen
  obtain ⟨cl⟩ := cs
  obtain ⟨c0, rest, rfl, hr⟩ := len_cons (l := cl) (n := k) (by simpa [h2'] using hsz)
  have hfirst : ∃ b, c0 = .string b := by
    obtain ⟨u, hu, hok⟩ := hall 0 c0 (by simp)
    simp at hu
    subst hu
    cases hd : P.underlying s with
    | none => simp [hd] at hs
    | some ds =>
      have : ds = .string := by cases ds <;> simp [hd] at hs; rfl
      subst this
      exact okWide_string (w := W) (r := r) (base := base) hd (by simp only [Value.okWide, hd]; exact hok)
  obtain ⟨b, rfl⟩ := hfirst
  have hcell : ∀ c ∈ rest, ∃ n, c = .int .i64 n ∧ In64 n := fun c hc => by
    obtain ⟨i, hi⟩ := List.mem_iff_getElem?.1 hc
    have hil := (List.getElem?_eq_some_iff.1 hi).1
    obtain ⟨u, hu, hok⟩ := hall (i + 1) c (by simpa using hi)
    rw [List.length_cons, Nat.mod_eq_of_lt (by omega), List.getElem?_cons_succ] at hu
    have := List.all_eq_true.1 hi64 u (List.mem_of_getElem? hu)
    cases hd : P.underlying u with
    | none => simp [hd] at this
    | some ds =>
      have : ds = .int .i64 := by
        cases ds <;> simp [hd] at this
        rename_i k
        cases k <;> simp at this
        rfl
      subst this
      exact open_i64 (W := W) (r := r) (base := base) hd (by simp only [Value.okWide, hd]; exact hok)
  have hlist : ∀ l : List Value, (∀ c ∈ l, ∃ n, c = .int .i64 n ∧ In64 n) → ∃ ns : List Int, l = ns.map (.int .i64) ∧ ∀ n ∈ ns, In64 n := by
    intro l
    induction l with
    | nil => intro _; exact ⟨[], rfl, fun _ h => by cases h⟩
    | cons c l ih =>
      intro hl
      obtain ⟨n, rfl, hn⟩ := hl _ List.mem_cons_self
      obtain ⟨ns, rfl, hns⟩ := ih fun c hc => hl c (List.mem_cons_of_mem _ hc)
      exact ⟨n :: ns, rfl, fun m hm => by
        rcases List.mem_cons.1 hm with rfl | hm
        · exact hn
        · exact hns m hm⟩
  obtain ⟨ns, rfl, hin⟩ := hlist rest hcell
  exact ⟨b, ns, rfl, by simpa using hr, hin⟩
end
end Go.Sx

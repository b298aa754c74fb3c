/- A law's argument that is a list of numbers, opened. For any program. No condition. -/
import Derived.Test.YtonampcmhhhffaaVLaw
import Derived.Test.YtonampcmhhhffaaVSxSrc
import Derived.ChangeSlices
namespace Go.Sx
open Go.RowKit Go.ChangeShapes Go.WideShapes
section
variable {P : Program} {W : World} {H : Type} {enc : TypeId × Value → H}

theorem slice_of {t e : TypeId} {v : Value} (ht : P.underlying t = some (.slice e)) {r : Reach} {base : Nat} (h : Value.okWide P W r base t v) : ∃ a l c, v = .slice a l c := by
  simp only [Value.okWide, ht, Cell.okWide] at h
  cases v <;> simp [Cell.ok, ht] at h
  exact ⟨_, _, _, rfl⟩

theorem open_list {t e : TypeId} {v : Value} {d : DataW H} {p : List MemPlace} (ht : P.underlying t = some (.slice e)) (he : P.underlying e = some (.int .i64)) (hc : P.cellsOf e = 1)
    {r : Reach} {base : Nat} (hv : Value.okWide P W r base t v) (h : DataW.Trod enc P W 0 (fun _ => true) true t v d p) : ∃ L : List Int, IntsAt W W.heap.size v L ∧ ∀ x ∈ L, In64 x := by
  obtain ⟨a, l, c, rfl⟩ := slice_of ht hv
  obtain ⟨fuel, h⟩ := h
  have h' : DataW.trod enc P W 0 (fun _ => true) true fuel t [.slice a l c] = some (d, p) := h
  rcases open_ints ht he hc h' with ⟨h1, _⟩ | ⟨a', len, cap, zs, h1, _, hlc, hcap, hz, _, hcell, hwf⟩
  · simp at h1
    obtain ⟨rfl, rfl, rfl⟩ := h1
    exact ⟨[], ⟨by simp, none, 0, rfl, fun j hj => by simp at hj⟩, fun x hx => by cases hx⟩
  · simp at h1
    obtain ⟨rfl, rfl, rfl⟩ := h1
    simp only [if_true] at hz
    have hlen : (zs.take l).length = l := by simp; omega
    refine ⟨zs.take l, ⟨by have : maxLen = 9223372036854775807 := rfl; omega, some a', c, by rw [hlen], fun j hj => ?_⟩, fun x hx => ?_⟩
    · rw [hlen] at hj
      have h0 := hcell 0 (by omega)
      have hj' := hcell j (by omega)
      have hsp : a'.spot = none := by
        have e : a'.add 0 = a' := by simp [Addr.add]
        rw [e] at h0
        unfold World.cell? at h0
        cases hb : W.heap[a'.block]? with
        | none => simp [hb] at h0
        | some o => cases o <;> simp [hb] at h0; exact h0.1
      obtain ⟨bb, off, sp⟩ := a'
      simp only at hsp
      subst hsp
      rw [add_addr] at hj'
      refine ⟨bb, off, rfl, ?_, ?_⟩
      · unfold World.cell? at hj'
        cases hb : W.heap[bb]? with
        | none => simp [hb] at hj'
        | some o => exact heap_lt hb
      · rw [hj']
        simp [List.getD_eq_getElem?_getD, List.getElem?_take, hj]
    · have := hwf x (List.mem_of_mem_take hx)
      simpa [Lit.wf, IntKind.has, IntKind.min, IntKind.max, IntKind.signed, IntKind.bits, In64] using this
end
end Go.Sx

/- A region that draws its order and whose operations all only write slots of their own, in whatever order. For any program. No condition. -/
import Derived.Test.YtonampcmhhhffaaVSxTellM
namespace Go.Sx
open Go.RowKit

section
variable {P : Program} {n : Nat} {w0 : Base} {ops : Array Oper} {Q : Exit → Act → World → Prop} {H : Heap} {S0 : Slots}

def allB (ops : Array Oper) : Bool := depB ops ops.size && selfB ops ops.size && backB ops

theorem wpAny_all {cs : List Cert} {l : List Oper} {S' : Slots} {G' : Ghosts} (hB : allB l.toArray = true) (hlen : cs.length = l.length)
    (hcs : ∀ i o c, l.toArray[i]? = some o → cs[i]? = some c → CertOk P n w0 l.toArray H o c ∧ Stems S0 (cs.take i) c.S c.G)
    (hst : Stems S0 cs S' G') (hK : PostAt n w0 Q .normal S' H) :
    ∀ (f : Nat) (listed : Array Bool) (a : Act) (w : World), listed.size = l.toArray.size → undone listed l.toArray.size = f → Inv S0 w0 n H cs listed a w →
      wpAny P .any l.toArray Q f listed a w := by
  simp only [allB, Bool.and_eq_true] at hB
  obtain ⟨⟨hdep, hself⟩, hback⟩ := hB
  intro f
  induction f with
  | zero =>
    intro listed a w hsz hu inv
    have hall := undone_zero hu
    have hdone : ∀ i, i < l.length → listed.getD i false = true := fun i hi => by
      have h1 := hall i (by simpa using hi)
      have : i < listed.size := by rw [hsz]; simpa using hi
      simp [this] at h1 ⊢
      exact h1
    have hcN : ∀ i c, cs[i]? = some c → i < l.length := fun i c hc => by have := (List.getElem?_eq_some_iff.1 hc).1; omega
    have fits : Fits n S' a := ⟨inv.size, inv.defers, fun t v ht => by
      rcases hst.slots t v ht with ⟨c, hc, hd, hT⟩ | ⟨h0, hno⟩
      · obtain ⟨i, hi⟩ := List.mem_iff_getElem?.1 hc
        obtain ⟨u, hu, hTu⟩ := inv.done i c hi (hdone i (hcN i c hi))
        rw [hT] at hTu
        rw [← hd, hu]
        exact congrArg some hTu
      · exact inv.old t v h0 fun i c hi hd => absurd hd (hno c (List.mem_of_getElem? hi))⟩
    refine ⟨List.eq_nil_iff_forall_not_mem.2 fun i hi => ?_, hK a w fits inv.knows⟩
    obtain ⟨hun, o, ho, _⟩ := mem_ready.1 hi
    have h1 := hall i (Array.getElem?_eq_some_iff.1 ho).1
    rw [h1] at hun
    cases hun
  | succ f ih =>
    intro listed a w hsz hu inv
    obtain ⟨i0, hi0, hun0, hbefore⟩ := undone_first (listed := listed) (N := l.toArray.size) (by omega)
    have hready : i0 ∈ Region.ready .any l.toArray listed := by
      refine mem_ready.2 ⟨hun0, l.toArray[i0], Array.getElem?_eq_getElem hi0, fun e he hb => ?_⟩
      have h1 := List.all_eq_true.1 hback i0 (List.mem_range.2 hi0)
      simp only [Array.getElem?_eq_getElem hi0] at h1
      have h2 := Array.all_eq_true_iff_forall_mem.1 h1 e he
      simp only [hb, Bool.not_true, Bool.false_or, decide_eq_true_eq] at h2
      have h3 := hbefore e.on h2
      have : e.on < listed.size := by rw [hsz]; omega
      simp [this] at h3 ⊢
      exact h3
    refine ⟨fun h0 => (by rw [h0] at hready; cases hready), fun i hi => ?_⟩
    have hiN : i < l.toArray.size := by
      obtain ⟨_, o, ho, _⟩ := mem_ready.1 hi
      exact (Array.getElem?_eq_some_iff.1 ho).1
    have hun := (mem_ready.1 hi).1
    refine wpOp_mono (fun a' w' h => ?_) (step_inv (by simpa using hlen) hdep hself hcs inv hi hiN hsz (Nat.le_refl _))
    have := undone_set hun hiN
    exact ih _ a' w' (by simpa using hsz) (by omega) h

theorem doC_all {S : Slots} {l : List Oper} {id : Nat} (hm : P.follows .mixedOrders = true) (hB : allB l.toArray = true)
    (h : DoG P n w0 l.toArray H (fun S' _ => PostAt n w0 Q .normal S' H) l S []) : DoC P n w0 Q (.region id l.toArray true) S H := by
  intro a w fa ka
  obtain ⟨cs, hlen, hcs, S', G', hst, hK, hG⟩ := doG_certs (S0 := S) l S [] [] ⟨fun t v ht => .inr ⟨ht, fun c hc => by cases hc⟩, fun t T ht => by cases ht⟩ h
  refine wp_region_any hm ?_
  have hund : undone (Array.replicate l.toArray.size false) l.toArray.size = l.toArray.size := by
    have : ∀ k, k ≤ l.toArray.size → undone (Array.replicate l.toArray.size false) k = k := by
      intro k
      induction k with
      | zero => intro _; rfl
      | succ k ih =>
        intro hk
        have h1 := getD_in (listed := Array.replicate l.toArray.size false) (i := k) (by simp; simp at hk; omega) (getD_replicate_false _ _)
        simp only [undone, ih (by omega), h1]
        rfl
    exact this _ (Nat.le_refl _)
  exact wpAny_all (P := P) (n := n) (w0 := w0) (H := H) (S0 := S) (Q := Q) hB hlen (fun i o c hi hc => by
      have := hcs i o c (by simpa using hi) hc
      simpa using this) (by simpa using hst) hK _ _ a { w with drawn := w.drawn + 1 } (by simp) hund
      ⟨fa.size, fa.defers, fun t v ht _ => fa.has t v ht, fun i c _ hd => (by rw [getD_replicate_false] at hd; cases hd), fun i j c c' _ _ _ _ _ hd => (by rw [getD_replicate_false] at hd; cases hd), ka.next (Grow.refl w).drew⟩
end
end Go.Sx

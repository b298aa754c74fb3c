/- A region that draws its order and holds no call: each of its orders by itself. For any program. No condition. -/
import Derived.Test.YtonampcmhhhffaaVSxMore
namespace Go.Sx
open Go.RowKit

def detB (o : Oper) : Bool := match o.op with
  | .load .. => true | .store .. => true | .move .. => true | .assign .. => true | .fieldAddr .. => true | .indexAddr .. => true | .build .. => true
  | .binOp .. => true | .unOp .. => true | .field .. => true | .index .. => true | .extract .. => true | _ => false

/-- The run ends in a value, in nothing, or halts. -/
def plainR : Result Next → Prop
  | .ok (.value _) _ => True
  | .ok .skip _ => True
  | .ok _ _ => False
  | .halt _ _ => True

theorem plain_v {P : Program} {w : World} (s : Sem Value) : plainR ((do pure (.value (← s)) : Sem Next).run P w) := by
  simp only [Sem.run_bind]
  cases s.run P w <;> simp [plainR]
theorem plain_u {P : Program} {w : World} (s : Sem Unit) : plainR ((do s; pure .skip : Sem Next).run P w) := by
  simp only [Sem.run_bind]
  cases s.run P w <;> simp [plainR]

theorem det_run {P : Program} {w : World} {ρ : Operand → Value} {o : Oper} (h : detB o = true) : plainR ((execOp ρ o).run P w) := by
  unfold execOp
  unfold detB at h
  cases ho : o.op <;> simp only [ho] at h <;> first | (cases h; done) | exact plain_v _ | exact plain_u _ | exact trivial

section
variable {P : Program} {n : Nat} {w0 : Base} {ops : Array Oper} {Q : Exit → Act → World → Prop} {S : Slots} {H : Heap}

theorem wpOp_conj {i : Nat} {a : Act} {w : World} {α : Type} {K : α → Act → World → Prop} (hdet : ∀ o, ops[i]? = some o → detB o = true) (L : List α) (hL : L ≠ []) (h : ∀ x ∈ L, wpOp P ops Q i (K x) a w) :
    wpOp P ops Q i (fun a' w' => ∀ x ∈ L, K x a' w') a w := by
  obtain ⟨x0, hx0⟩ := List.exists_mem_of_ne_nil L hL
  have h0 := h x0 hx0
  unfold wpOp at *
  cases ho : ops[i]? with
  | none => simp only [ho] at h ⊢; exact h
  | some o =>
    simp only [ho] at h h0 ⊢
    by_cases hw : Region.wanted o (yielded ops a.tmps) = true
    · simp only [hw, if_true] at h h0 ⊢
      by_cases hasks : o.asks P a w ∧ LetsOut Q
      · exact .inr hasks
      · refine .inl ?_
        have h' : ∀ x ∈ L, o.wp P a w (K x) Q := fun x hx => (h x hx).resolve_right hasks
        have hp := det_run (P := P) (w := w) (ρ := a.eval) (hdet o ho)
        unfold Oper.wp at h' ⊢
        generalize (execOp a.eval o).run P w = r at *
        cases r with
        | ok y w' =>
          cases y <;> simp only [plainR] at hp <;> simp only [Oper.upon] at h' ⊢ <;> exact fun x hx => h' x hx
        | halt y w' =>
          have := h' x0 hx0
          cases y <;> simp only [Oper.upon] at this ⊢ <;> exact this
    · simp only [hw] at h ⊢
      exact fun x hx => h x hx

def linsFrom (ops : Array Oper) : Nat → Array Bool → List (List Nat)
  | 0, _ => [[]]
  | f + 1, listed => match Region.ready .any ops listed with
    | [] => [[]]
    | r => r.flatMap fun i => (linsFrom ops f (listed.setIfInBounds i true)).map (i :: ·)

theorem linsFrom_ne (f : Nat) : ∀ listed, linsFrom ops f listed ≠ [] := by
  induction f with
  | zero => intro _; simp [linsFrom]
  | succ f ih =>
    intro listed
    unfold linsFrom
    cases hr : Region.ready .any ops listed with
    | nil => simp
    | cons i r =>
      simp only [List.flatMap_cons]
      intro h
      have := List.append_eq_nil_iff.1 h
      exact ih _ (by simpa using this.1)

theorem wpAny_lins (hdet : ops.all detB = true) : ∀ (f : Nat) (listed : Array Bool) (a : Act) (w : World), HeadInv .any ops ops.size listed → undone listed ops.size = f →
    (∀ i, i < ops.size → ∀ o, ops[i]? = some o → ∀ e ∈ o.after, Region.binds .any e = true → e.on < i) →
    (∀ p ∈ linsFrom ops f listed, wpList P ops Q (p.filterMap (ops[·]?)) a w) → wpAny P .any ops Q f listed a w := by
  intro f
  induction f with
  | zero =>
    intro listed a w hh hu hback h
    have hall := undone_zero hu
    refine ⟨?_, by simpa [linsFrom, wpList] using h [] (by simp [linsFrom])⟩
    cases hr : Region.ready .any ops listed with
    | nil => rfl
    | cons i r =>
      have hi : i ∈ Region.ready .any ops listed := by rw [hr]; simp
      obtain ⟨h1, o, ho, _⟩ := mem_ready.1 hi
      rw [hall i (Array.getElem?_eq_some_iff.1 ho).1] at h1
      cases h1
  | succ f ih =>
    intro listed a w hh hu hback h
    obtain ⟨i0, hi0, hun0, hbefore⟩ := undone_first (listed := listed) (N := ops.size) (by omega)
    have hready : i0 ∈ Region.ready .any ops listed := by
      refine mem_ready.2 ⟨hun0, ops[i0], Array.getElem?_eq_getElem hi0, fun e he hb => ?_⟩
      have h2 := hback i0 hi0 _ (Array.getElem?_eq_getElem hi0) e he hb
      have h3 := hbefore e.on h2
      have : e.on < listed.size := by rw [hh.size]; omega
      simp [this] at h3 ⊢
      exact h3
    refine ⟨fun h0 => (by rw [h0] at hready; cases hready), fun i hi => ?_⟩
    obtain ⟨hun, o, ho, _⟩ := mem_ready.1 hi
    have hilt := (Array.getElem?_eq_some_iff.1 ho).1
    have hsub : ∀ p ∈ linsFrom ops f (listed.setIfInBounds i true), (i :: p) ∈ linsFrom ops (f + 1) listed := fun p hp => by
      unfold linsFrom
      cases hr : Region.ready .any ops listed with
      | nil => rw [hr] at hi; cases hi
      | cons j r =>
        simp only []
        rw [hr] at hi
        exact List.mem_flatMap.2 ⟨i, hi, List.mem_map.2 ⟨p, hp, rfl⟩⟩
    have hconj := wpOp_conj (P := P) (Q := Q) (ops := ops) (i := i) (a := a) (w := w) (K := fun p => wpList P ops Q (p.filterMap (ops[·]?))) (fun o' ho' => by
        exact Array.all_eq_true_iff_forall_mem.1 hdet o' (Array.mem_of_getElem? ho')) (linsFrom ops f (listed.setIfInBounds i true)) (linsFrom_ne f _) (fun p hp => by
        have := h (i :: p) (hsub p hp)
        simp only [List.filterMap_cons, ho] at this
        unfold wpOp
        simp only [ho]
        exact this)
    have := undone_set hun hilt
    exact wpOp_mono (fun a' w' hk => ih _ a' w' (hh.set hi hilt) (by omega) hback hk) hconj

/-- Every order by itself: 'ps' are the orders. -/
theorem doC_perm {l : List Oper} {id : Nat} (ps : List (List Nat)) (hm : P.follows .mixedOrders = true) (hdet : l.toArray.all detB = true) (hback : backB l.toArray = true)
    (hps : linsFrom l.toArray l.toArray.size (Array.replicate l.toArray.size false) = ps) (h : ∀ p ∈ ps, DoL P n w0 l.toArray Q (p.filterMap (l.toArray[·]?)) S H) :
    DoC P n w0 Q (.region id l.toArray true) S H := by
  intro a w fa ka
  refine wp_region_any hm ?_
  have inv0 : HeadInv .any l.toArray l.toArray.size (Array.replicate l.toArray.size false) :=
    ⟨by simp, fun j oj _ hl => (by rw [getD_replicate_false] at hl; cases hl), fun t h1 h2 => by omega⟩
  have hund : undone (Array.replicate l.toArray.size false) l.toArray.size = l.toArray.size := by
    have : ∀ k, k ≤ l.toArray.size → undone (Array.replicate l.toArray.size false) k = k := by
      intro k
      induction k with
      | zero => intro _; rfl
      | succ k ih =>
        intro hk
        have h1 := getD_in (listed := Array.replicate l.toArray.size false) (i := k) (by simp; simp at hk; omega) (getD_replicate_false _ _)
        simp only [undone, ih (by omega), h1]
        rfl
    exact this _ (Nat.le_refl _)
  refine wpAny_lins hdet _ _ a _ inv0 hund (fun i hi o ho e he hb => ?_) fun p hp => h p (hps ▸ hp) a _ fa (ka.next (Grow.refl w).drew)
  have h1 := List.all_eq_true.1 hback i (List.mem_range.2 hi)
  simp only [ho] at h1
  have h2 := Array.all_eq_true_iff_forall_mem.1 h1 e he
  simpa [hb] using h2

end
end Go.Sx

/- A symbolic executor for Go code: rules over known slots and known blocks of the heap, for any program. No condition. -/
import Derived.StillTail
import Derived.LoopN
import Derived.Below
import Derived.KernelRfl
import Derived.Laws.CopyRow
namespace Go.Sx
open Go.RowKit

/-- a cons inside an option, written out by evaluation -/
def consO {α : Type} (c : α) : Option (List α) → Option (List α)
  | some l => some (c :: l)
  | none => none
theorem consO_some {α : Type} {c : α} {x : Option (List α)} {vs : List α} (h : consO c x = some vs) : ∃ l, x = some l ∧ c :: l = vs := by
  cases x with
  | none => cases h
  | some l => exact ⟨l, rfl, by simpa [consO] using h⟩

/-! ### Slots -/
abbrev Slots := List (Nat × Value)

def look : Slots → Nat → Option Value
  | [], _ => none
  | (k, v) :: S, t => bif Nat.beq k t then some v else look S t

def ev (S : Slots) : Operand → Option Value
  | .tmp t => look S t
  | .const v => some v
  | .global g => some (.pointer (some ⟨g, 0, none⟩))
  | .func f => some (.func (.func f) #[] #[])

def evD (S : Slots) (x : Operand) : Value := (ev S x).getD undef

def evs (S : Slots) : List Operand → Option (List Value)
  | [] => some []
  | x :: xs => match ev S x with
    | some v => consO v (evs S xs)
    | none => none

theorem look_cons_same (k : Nat) (v : Value) (S : Slots) : look ((k, v) :: S) k = some v := by
  simp [look]

theorem look_cons_ne {k t : Nat} (v : Value) (S : Slots) (h : k ≠ t) : look ((k, v) :: S) t = look S t := by
  have : Nat.beq k t = false := by
    cases hb : Nat.beq k t with
    | false => rfl
    | true => exact absurd (Nat.eq_of_beq_eq_true hb) h
  simp [look, this]

structure Fits (n : Nat) (S : Slots) (a : Act) : Prop where
  size : a.tmps.size = n
  defers : a.defers = []
  has : ∀ t v, look S t = some v → a.tmps[t]? = some v

theorem Fits.ev {n : Nat} {S : Slots} {a : Act} (h : Fits n S a) {x : Operand} {v : Value} (hx : ev S x = some v) : a.eval x = v := by
  cases x with
  | tmp t =>
    have := h.has t v hx
    simp [Act.eval, Array.getD_eq_getD_getElem?, this]
  | const u => simpa [Sx.ev, Act.eval] using hx
  | global g => simpa [Sx.ev, Act.eval] using hx
  | func f => simpa [Sx.ev, Act.eval] using hx

theorem Fits.put {n : Nat} {S : Slots} {a : Act} (h : Fits n S a) {d : Nat} (hd : Nat.blt d n = true) (v : Value) : Fits n ((d, v) :: S) (a.put (some d) v) := by
  have hd' : d < n := by simpa using hd
  refine ⟨by simp [Act.put, h.size], h.defers, fun t u hu => ?_⟩
  by_cases e : d = t
  · subst e
    rw [look_cons_same] at hu
    cases hu
    simp [Act.put, h.size, hd']
  · rw [look_cons_ne _ _ e] at hu
    simp [Act.put, Array.getElem?_setIfInBounds_ne e, h.has t u hu]

/-! ### The heap -/
abbrev Heap := List (Nat × Nat × List Value × TypeId)

def Grow (w w' : World) : Prop := Below w.heap.size w w'

theorem Grow.refl (w : World) : Grow w w := Below.refl _ _
theorem Grow.trans {a b c : World} (h : Grow a b) (k : Grow b c) : Grow a c := Below.trans h (Below.mono k h.size)
theorem Grow.drew {a w : World} (h : Grow a w) : Grow a w.drew := Below.drew h
theorem Grow.alloc {a w : World} (h : Grow a w) (o : Obj) : Grow a (w.alloc o) := Below.alloc h h.size o

def lookH : Heap → Nat → Option (Nat × List Value × TypeId)
  | [], _ => none
  | (k, x) :: H, i => bif Nat.beq k i then some x else lookH H i

def updH : Heap → Nat → List Value → Option Heap
  | [], _, _ => none
  | (k, b, cs, ty) :: H, i, cs' => bif Nat.beq k i then some ((k, b, cs', ty) :: H) else consO (k, b, cs, ty) (updH H i cs')

/-- A world's property that looks at the blocks D alone. -/
def Depends (D : Nat → Prop) (F : World → Prop) : Prop := ∀ w w' : World, (∀ k, D k → w'.heap[k]? = w.heap[k]?) → F w → F w'
/-- F is told of blocks from m on. -/
def Told (m : Nat) (F : World → Prop) (w : World) : Prop := ∃ D : Nat → Prop, Depends D F ∧ (∀ k, D k → m ≤ k ∧ k < w.heap.size) ∧ F w
/-- .. none of which is one of H. -/
structure RFact (m : Nat) (H : Heap) (D : Nat → Prop) (F : World → Prop) (w : World) : Prop where
  dep : Depends D F
  at' : ∀ k, D k → m ≤ k ∧ k < w.heap.size ∧ ∀ x ∈ H, x.2.1 ≠ k
  holds : F w

/-- the world when the call began, and what has been told since -/
structure Base where
  w : World
  R : List (Nat × (Nat → Prop) × (World → Prop))

structure Knows (w0 : Base) (H : Heap) (w : World) : Prop where
  grow : Grow w0.w w
  has : ∀ x ∈ H, w0.w.heap.size ≤ x.2.1 ∧ w.heap[x.2.1]? = some (.cells x.2.2.1.toArray x.2.2.2)
  nodup : (H.map (·.2.1)).Nodup
  facts : ∀ x ∈ w0.R, RFact w0.w.heap.size H x.2.1 x.2.2 w
  apart : w0.R.Pairwise (fun x y => ∀ k, x.2.1 k → ¬ y.2.1 k)

theorem RFact.grow {m : Nat} {H : Heap} {D : Nat → Prop} {F : World → Prop} {w w' : World} (h : RFact m H D F w) (g : Grow w w') : RFact m H D F w' :=
  ⟨h.dep, fun k hk => ⟨(h.at' k hk).1, Nat.lt_of_lt_of_le (h.at' k hk).2.1 g.size, (h.at' k hk).2.2⟩, h.dep w w' (fun k hk => g.block k (h.at' k hk).2.1) h.holds⟩
theorem RFact.heap {m : Nat} {H H' : Heap} {D : Nat → Prop} {F : World → Prop} {w : World} (h : RFact m H D F w) (hs : ∀ x ∈ H', (∃ y ∈ H, y.2.1 = x.2.1) ∨ ¬ D x.2.1) : RFact m H' D F w := by
  refine ⟨h.dep, fun k hk => ⟨(h.at' k hk).1, (h.at' k hk).2.1, fun x hx e => ?_⟩, h.holds⟩
  rcases hs x hx with ⟨y, hy, he⟩ | hn
  · exact (h.at' k hk).2.2 y hy (he.trans e)
  · exact hn (e ▸ hk)

theorem lookH_mem {H : Heap} {i : Nat} {x : Nat × List Value × TypeId} (h : lookH H i = some x) : ∃ k, (k, x) ∈ H := by
  induction H with
  | nil => cases h
  | cons y H ih =>
    obtain ⟨k, y⟩ := y
    simp only [lookH] at h
    cases hb : Nat.beq k i with
    | true => rw [hb] at h; simp at h; subst h; exact ⟨k, List.mem_cons_self⟩
    | false => rw [hb] at h; simp at h; obtain ⟨k', hk⟩ := ih h; exact ⟨k', List.mem_cons_of_mem _ hk⟩

theorem Knows.at {w0 : Base} {w : World} {H : Heap} (h : Knows w0 H w) {i b : Nat} {cs : List Value} {ty : TypeId} (hi : lookH H i = some (b, cs, ty)) :
    w0.w.heap.size ≤ b ∧ w.heap[b]? = some (.cells cs.toArray ty) := by
  obtain ⟨k, hk⟩ := lookH_mem hi
  exact h.has _ hk

theorem heap_lt {w : World} {b : Nat} {o : Obj} (h : w.heap[b]? = some o) : b < w.heap.size := by
  rcases Nat.lt_or_ge b w.heap.size with h' | h'
  · exact h'
  · simp [Array.getElem?_eq_none h'] at h

theorem Knows.next {w0 : Base} {w w' : World} {H : Heap} (h : Knows w0 H w) (g : Grow w w') : Knows w0 H w' :=
  ⟨h.grow.trans g, fun x hx => ⟨(h.has x hx).1, by rw [g.block _ (heap_lt (h.has x hx).2)]; exact (h.has x hx).2⟩, h.nodup, fun x hx => (h.facts x hx).grow g, h.apart⟩

theorem Knows.nil {w1 w : World} (g : Grow w1 w) : Knows ⟨w1, []⟩ [] w := ⟨g, fun _ h => (by cases h), List.nodup_nil, fun _ h => (by cases h), List.Pairwise.nil⟩
theorem Knows.lt {w0 : Base} {w : World} {H : Heap} (h : Knows w0 H w) : ∀ x ∈ H, x.2.1 < w.heap.size := fun x hx => heap_lt (h.has x hx).2
/-- what is told of a call's result is kept -/
theorem Knows.tell {w0 : Base} {w w' : World} {H : Heap} (h : Knows w0 H w) (g : Grow w w') (id : Nat) {D : Nat → Prop} {F : World → Prop} (h1 : Depends D F) (h2 : ∀ k, D k → w.heap.size ≤ k ∧ k < w'.heap.size) (h3 : F w') : Knows ⟨w0.w, (id, D, F) :: w0.R⟩ H w' := by
  have k := h.next g
  refine ⟨k.grow, k.has, k.nodup, fun x hx => ?_, List.Pairwise.cons (fun y hy j h4 h5 => by have := (h2 j h4).1; have := ((h.facts y hy).at' j h5).2.1; omega) h.apart⟩
  rcases List.mem_cons.1 hx with rfl | hx
  · exact ⟨h1, fun j hj => ⟨Nat.le_trans h.grow.size (h2 j hj).1, (h2 j hj).2, fun y hy e => by have := h.lt y hy; have := (h2 j hj).1; omega⟩, h3⟩
  · exact k.facts x hx

theorem Knows.alloc {w0 : Base} {w : World} {H : Heap} (h : Knows w0 H w) (id : Nat) (cs : List Value) (ty : TypeId) :
    Knows w0 ((id, w.heap.size, cs, ty) :: H) (w.alloc (.cells cs.toArray ty)) := by
  have h2 := h.next ((Grow.refl w).alloc (.cells cs.toArray ty))
  refine ⟨h2.grow, fun x hx => ?_, ?_, fun F hF => ?_, h.apart⟩
  · rcases List.mem_cons.1 hx with rfl | hx
    · refine ⟨h.grow.size, ?_⟩
      show (w.heap.push _)[w.heap.size]? = _
      simp
    · exact h2.has x hx
  · rw [List.map_cons, List.nodup_cons]
    refine ⟨fun hm => ?_, h.nodup⟩
    obtain ⟨x, hx, he⟩ := List.mem_map.1 hm
    have := heap_lt (h.has x hx).2
    simp only at he
    omega
  · exact ((h.facts F hF).heap (H' := (id, w.heap.size, cs, ty) :: H) fun x hx => by
      rcases List.mem_cons.1 hx with rfl | hx
      · exact .inr fun hd => by have := ((h.facts F hF).at' _ hd).2.1; simp only at this; omega
      · exact .inl ⟨x, hx, rfl⟩).grow ((Grow.refl w).alloc _)

theorem updH_spec {H H' : Heap} {i : Nat} {cs' : List Value} (h : updH H i cs' = some H') : ∃ b cs ty, lookH H i = some (b, cs, ty) ∧ H'.map (·.2.1) = H.map (·.2.1) ∧
    ((H.map (·.2.1)).Nodup → ∀ x ∈ H', x ∈ H ∧ x.2.1 ≠ b ∨ x.2 = (b, cs', ty)) := by
  induction H generalizing H' with
  | nil => cases h
  | cons y H ih =>
    obtain ⟨k, b, cs, ty⟩ := y
    simp only [updH] at h
    cases hb : Nat.beq k i with
    | true =>
      rw [hb] at h; simp at h; subst h
      refine ⟨b, cs, ty, by simp [lookH, hb], by simp, fun nd x hx => ?_⟩
      rcases List.mem_cons.1 hx with rfl | hx
      · exact .inr rfl
      · rw [List.map_cons, List.nodup_cons] at nd
        exact .inl ⟨List.mem_cons_of_mem _ hx, fun e => nd.1 (List.mem_map.2 ⟨x, hx, e⟩)⟩
    | false =>
      rw [hb] at h
      obtain ⟨H2, h2, rfl⟩ := consO_some h
      obtain ⟨b2, cs2, ty2, e1, e2, e3⟩ := ih h2
      refine ⟨b2, cs2, ty2, by simp [lookH, hb, e1], by simp [e2], fun nd x hx => ?_⟩
      rw [List.map_cons, List.nodup_cons] at nd
      rcases List.mem_cons.1 hx with rfl | hx
      · refine .inl ⟨List.mem_cons_self, fun e => nd.1 ?_⟩
        obtain ⟨k', hk⟩ := lookH_mem e1
        exact List.mem_map.2 ⟨_, hk, e.symm⟩
      · rcases e3 nd.2 x hx with ⟨h1, h2⟩ | h1
        · exact .inl ⟨List.mem_cons_of_mem _ h1, h2⟩
        · exact .inr h1

theorem Knows.set {w0 : Base} {w : World} {H H' : Heap} (h : Knows w0 H w) {i : Nat} {b : Nat} {cs cs' : List Value} {ty : TypeId} (hi : lookH H i = some (b, cs, ty))
    (hu : updH H i cs' = some H') : Knows w0 H' (w.setRow b cs'.toArray) := by
  obtain ⟨hb, hh⟩ := h.at hi
  obtain ⟨b2, cs2, ty2, e1, e2, e3⟩ := updH_spec hu
  rw [hi] at e1
  cases e1
  have hother : ∀ k, k ≠ b → (w.setRow b cs'.toArray).heap[k]? = w.heap[k]? := fun k hk => by
    simp only [World.setRow, Array.getElem?_modify]
    rw [if_neg (by omega)]
  refine ⟨⟨h.grow.os, h.grow.tape, h.grow.output, by simpa [World.setRow] using h.grow.size, fun k hk => ?_⟩, fun x hx => ?_, by rw [e2]; exact h.nodup, fun F hF => ?_, h.apart⟩
  · rw [hother k (by omega)]
    exact h.grow.block k hk
  · rcases e3 h.nodup x hx with ⟨h1, h2⟩ | h1
    · refine ⟨(h.has x h1).1, ?_⟩
      rw [hother _ h2]
      exact (h.has x h1).2
    · obtain ⟨k, x⟩ := x
      simp only at h1
      subst h1
      exact ⟨hb, setRow_heap w b _ _ ty _ hh⟩
  · obtain ⟨h1, h2, h3⟩ := h.facts F hF
    obtain ⟨kk, hkk⟩ := lookH_mem hi
    have hbD : ∀ k, F.2.1 k → k ≠ b := fun k hk e => (h2 k hk).2.2 _ hkk e.symm
    refine ⟨h1, fun k hk => ⟨(h2 k hk).1, by simpa [World.setRow] using (h2 k hk).2.1, fun x hx e => ?_⟩, h1 w _ (fun k hk => hother k (hbD k hk)) h3⟩
    have hm : x.2.1 ∈ H'.map (·.2.1) := List.mem_map.2 ⟨x, hx, rfl⟩
    rw [e2] at hm
    obtain ⟨y, hy, hye⟩ := List.mem_map.1 hm
    exact (h2 k hk).2.2 y hy (hye.trans e)

/-! ### Judgements -/
section
variable {P : Program} {n : Nat} {w0 : Base} {ops : Array Oper} {Q : Exit → Act → World → Prop} {S : Slots} {H : Heap}

def DoL (P : Program) (n : Nat) (w0 : Base) (ops : Array Oper) (Q : Exit → Act → World → Prop) (l : List Oper) (S : Slots) (H : Heap) : Prop :=
  ∀ a w, Fits n S a → Knows w0 H w → wpList P ops Q l a w
def DoC (P : Program) (n : Nat) (w0 : Base) (Q : Exit → Act → World → Prop) (c : Code) (S : Slots) (H : Heap) : Prop :=
  ∀ a w, Fits n S a → Knows w0 H w → c.wp P Q a w
def PostAt (n : Nat) (w0 : Base) (Q : Exit → Act → World → Prop) (e : Exit) (S : Slots) (H : Heap) : Prop :=
  ∀ a w, Fits n S a → Knows w0 H w → Q e a w
def DoR (P : Program) (n : Nat) (w0 : Base) (Q : Exit → Act → World → Prop) (c : Code) (N : Nat) (S : Slots) (H : Heap) : Prop :=
  ∀ a w, Fits n S a → Knows w0 H w → Code.rounds P c Q N a w

theorem doC_seq {x y : Code} (h : DoC P n w0 (Exit.then (y.wp P Q) Q) x S H) : DoC P n w0 Q (x.seq y) S H := fun a w f k => wp_seq (h a w f k)
theorem doC_region {id : Nat} {l : List Oper} (h : DoL P n w0 l.toArray Q l S H) : DoC P n w0 Q (.region id l.toArray false) S H := fun a w f k => wp_region_lit (h a w f k)
theorem doL_nil (h : PostAt n w0 Q .normal S H) : DoL P n w0 ops Q [] S H := fun a w f k => wpList_nil (h a w f k)
theorem doC_skip (h : PostAt n w0 Q .normal S H) : DoC P n w0 Q .skip S H := fun a w f k => wp_skip (h a w f k)
theorem doC_ret (h : PostAt n w0 Q .ret S H) : DoC P n w0 Q .ret S H := fun a w f k => wp_ret (h a w f k)
theorem doC_exit {id : Nat} (h : PostAt n w0 Q (.exit id) S H) : DoC P n w0 Q (.exit id) S H := fun a w f k => wp_exit (h a w f k)
theorem doC_block {id : Nat} {c : Code} (h : DoC P n w0 (Exit.inBlock id Q) c S H) : DoC P n w0 Q (.block id c) S H := fun a w f k => wp_block (h a w f k)
theorem doC_cond {c : Operand} {x y : Code} {b : Bool} (hc : ev S c = some (.bool b)) (h1 : b = true → DoC P n w0 Q x S H) (h2 : b = false → DoC P n w0 Q y S H) :
    DoC P n w0 Q (.cond c x y) S H := fun a w f k => by
  refine wp_cond (f.ev hc) ?_
  cases b with
  | true => exact h1 rfl a w f k
  | false => exact h2 rfl a w f k
theorem doC_cond_t {c : Operand} {x y : Code} {b : Bool} (hc : ev S c = some (.bool b)) (hb : b = true) (h1 : DoC P n w0 Q x S H) : DoC P n w0 Q (.cond c x y) S H :=
  doC_cond hc (fun _ => h1) (fun h => by rw [hb] at h; cases h)
theorem doC_cond_f {c : Operand} {x y : Code} {b : Bool} (hc : ev S c = some (.bool b)) (hb : b = false) (h1 : DoC P n w0 Q y S H) : DoC P n w0 Q (.cond c x y) S H :=
  doC_cond hc (fun h => by rw [hb] at h; cases h) (fun _ => h1)

theorem doC_rounds {c : Code} (N : Nat) (h : DoR P n w0 Q c N S H) : DoC P n w0 Q (.loop c) S H := fun a w f k => wp_loop_rounds N (h a w f k)
theorem doR_succ {c : Code} {N : Nat} (h : DoC P n w0 (Exit.then (Code.rounds P c Q N) Q) c S H) : DoR P n w0 Q c (N + 1) S H := fun a w f k => by
  rw [rounds_succ]; exact h a w f k

theorem post_then {y : Code} (h : DoC P n w0 Q y S H) : PostAt n w0 (Exit.then (y.wp P Q) Q) .normal S H := h
theorem post_rounds {c : Code} {N : Nat} (h : DoR P n w0 Q c N S H) : PostAt n w0 (Exit.then (Code.rounds P c Q N) Q) .normal S H := h
theorem post_then_ret {K : Act → World → Prop} (h : PostAt n w0 Q .ret S H) : PostAt n w0 (Exit.then K Q) .ret S H := h
theorem post_then_exit {K : Act → World → Prop} {id : Nat} (h : PostAt n w0 Q (.exit id) S H) : PostAt n w0 (Exit.then K Q) (.exit id) S H := h
theorem post_block_normal {id : Nat} (h : PostAt n w0 Q .normal S H) : PostAt n w0 (Exit.inBlock id Q) .normal S H := h
theorem post_block_ret {id : Nat} (h : PostAt n w0 Q .ret S H) : PostAt n w0 (Exit.inBlock id Q) .ret S H := h
theorem post_block_exit {id : Nat} (h : PostAt n w0 Q .normal S H) : PostAt n w0 (Exit.inBlock id Q) (.exit id) S H := fun a w f k => by
  show (if id = id then _ else _); rw [if_pos rfl]; exact h a w f k
theorem post_block_other {id id' : Nat} (hne : Nat.beq id' id = false) (h : PostAt n w0 Q (.exit id') S H) : PostAt n w0 (Exit.inBlock id Q) (.exit id') S H := fun a w f k => by
  show (if id' = id then _ else _)
  rw [if_neg (fun e => by subst e; rw [Nat.beq_refl] at hne; cases hne)]; exact h a w f k

/-! ### Operations -/

/-- What an operation's run comes to: it only makes new memory; what it yields is told by T. -/
def Yields (P : Program) (w : World) (T : Value → World → Prop) : Result Next → Prop
  | .ok (.value v) w' => Grow w w' ∧ T v w'
  | .ok .skip w' => Grow w w' ∧ T undef w'
  | .ok (.enter f args) w' => Grow w w' ∧ Calls P f args w' (fun e w'' => ∃ v, e = .returned v ∧ Grow w' w'' ∧ T v w'')
  | _ => False

def knownB (S : Slots) (o : Oper) : Bool := o.op.operands.all fun x => (ev S x).isSome

def noSel (o : Oper) : Bool := match o.op with | .select .. => false | _ => true

def wantedS (ops : Array Oper) (S : Slots) (o : Oper) : Option Bool :=
  match o.guard with
  | none => some true
  | some (j, b) => match (ops[j]?).bind (·.dst) with
    | some d => match look S d with
      | some (.bool c) => some (c == b)
      | _ => none
    | none => none

structure OpT (P : Program) (w0 : Base) (S : Slots) (H : Heap) (o : Oper) (T : Value → World → Prop) : Prop where
  known : knownB S o = true
  nosel : noSel o = true
  run : ∀ w, Knows w0 H w → Yields P w T ((execOp (evD S) o).run P w)

def OpV (P : Program) (w0 : Base) (S : Slots) (H : Heap) (o : Oper) (v : Value) : Prop := OpT P w0 S H o (fun u _ => u = v)

theorem noSel_spec {o : Oper} (h : noSel o = true) (cs : Array SelectCase) (b : Bool) : o.op ≠ .select cs b := by
  intro e; simp [noSel, e] at h

theorem exec_fits {S : Slots} {a : Act} (f : Fits n S a) {o : Oper} (hk : knownB S o = true) (hs : noSel o = true) : execOp a.eval o = execOp (evD S) o := by
  refine execOp_congr o (noSel_spec hs) fun x hx => ?_
  have := Array.all_eq_true_iff_forall_mem.1 hk x hx
  obtain ⟨v, hv⟩ := Option.isSome_iff_exists.1 this
  rw [f.ev hv]
  simp [evD, hv]

theorem wanted_fits {S : Slots} {a : Act} (f : Fits n S a) {o : Oper} {b : Bool} (h : wantedS ops S o = some b) : Region.wanted o (yielded ops a.tmps) = b := by
  unfold wantedS at h
  unfold Region.wanted
  cases hg : o.guard with
  | none => simp [hg] at h; simp [h]
  | some g =>
    obtain ⟨j, c⟩ := g
    simp only [hg] at h ⊢
    unfold yielded
    cases hd : (ops[j]?).bind (·.dst) with
    | none => simp [hd] at h
    | some d =>
      simp only [hd] at h
      cases hl : look S d with
      | none => simp [hl] at h
      | some v =>
        rw [hl] at h
        have := f.has d v hl
        cases v <;> simp at h
        simp [this, h]

theorem doL_op {o : Oper} {rest : List Oper} {T : Value → World → Prop} (hw : wantedS ops S o = some true) (ho : OpT P w0 S H o T)
    (next : ∀ a w w' v, Fits n S a → Knows w0 H w → Grow w w' → T v w' → wpList P ops Q rest (a.put o.dst v) w') : DoL P n w0 ops Q (o :: rest) S H := by
  intro a w f k
  unfold wpList
  rw [wanted_fits f hw, if_pos rfl]
  refine .inl ?_
  have hr := ho.run w k
  unfold Oper.wp
  rw [exec_fits f ho.known ho.nosel]
  generalize (execOp (evD S) o).run P w = r at *
  cases r with
  | ok x w' =>
    cases x <;> simp only [Yields] at hr <;> simp only [Oper.upon]
    case value v => exact next a w w' v f k hr.1 hr.2
    case skip => exact next a w w' undef f k hr.1 hr.2
    case enter fn args =>
      refine hr.2.mono fun e w'' ⟨v, he, hg, ht⟩ => ?_
      subst he
      exact next a w w'' v f k (hr.1.trans hg) ht
  | halt x w' => simp only [Yields] at hr

theorem doL_v {o : Oper} {rest : List Oper} {v : Value} {d : Nat} (ho : OpV P w0 S H o v) (hw : wantedS ops S o = some true) (hd : o.dst = some d) (hn : Nat.blt d n = true)
    (next : DoL P n w0 ops Q rest ((d, v) :: S) H) : DoL P n w0 ops Q (o :: rest) S H :=
  doL_op hw ho fun a w w' u f k g ht => by
    subst ht
    rw [hd]
    exact next _ _ (f.put hn _) (k.next g)

theorem doL_u {o : Oper} {rest : List Oper} {v : Value} (ho : OpV P w0 S H o v) (hw : wantedS ops S o = some true) (hd : o.dst = none)
    (next : DoL P n w0 ops Q rest S H) : DoL P n w0 ops Q (o :: rest) S H :=
  doL_op hw ho fun a w w' u f k g ht => by
    subst ht
    rw [hd]
    exact next _ _ f (k.next g)

theorem doL_skip {o : Oper} {rest : List Oper} {d : Nat} (hw : wantedS ops S o = some false) (hd : o.dst = some d) (hn : Nat.blt d n = true)
    (next : DoL P n w0 ops Q rest ((d, undef) :: S) H) : DoL P n w0 ops Q (o :: rest) S H := by
  intro a w f k
  unfold wpList
  rw [wanted_fits f hw, if_neg (by simp), hd]
  exact next _ _ (f.put hn _) k

end
end Go.Sx

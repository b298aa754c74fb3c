/- A region that draws its order: operations that only make new memory come first in whatever order, a forced tail follows. For any program. No condition. -/
import Derived.Test.YtonampcmhhhffaaVSxCall
namespace Go.Sx
open Go.RowKit

abbrev Pred := Value → World → Prop
def Stable (T : Pred) : Prop := ∀ v w w', T v w → Grow w w' → T v w'
def isV (v : Value) : Pred := fun u _ => u = v
theorem stable_isV (v : Value) : Stable (isV v) := fun _ _ _ h _ => h

abbrev Ghosts := List (Nat × Bool × Pred)
def lookG : Ghosts → Nat → Option Pred
  | [], _ => none
  | (k, _, T) :: G, t => bif Nat.beq k t then some T else lookG G t

theorem lookG_cons_ne {k t : Nat} (m : Bool) (T : Pred) (G : Ghosts) (h : k ≠ t) : lookG ((k, m, T) :: G) t = lookG G t := by
  have : Nat.beq k t = false := by
    cases hb : Nat.beq k t with
    | false => rfl
    | true => exact absurd (Nat.eq_of_beq_eq_true hb) h
  simp [lookG, this]
theorem lookG_cons_same (k : Nat) (m : Bool) (T : Pred) (G : Ghosts) : lookG ((k, m, T) :: G) k = some T := by simp [lookG]

section
variable {P : Program} {n : Nat} {w0 : Base} {ops : Array Oper} {Q : Exit → Act → World → Prop} {H : Heap}

/-- What is known of one slot. -/
def KnowAt (S : Slots) (G : Ghosts) (a : Act) (w : World) (t : Nat) : Prop :=
  (∀ v, look S t = some v → a.tmps[t]? = some v) ∧ (∀ T, lookG G t = some T → ∃ u, a.tmps[t]? = some u ∧ T u w)

/-- One operation, under what is known of the slots that it looks at. -/
def OpA (P : Program) (n : Nat) (w0 : Base) (ops : Array Oper) (H : Heap) (S : Slots) (G : Ghosts) (o : Oper) (T : Pred) : Prop :=
  ∀ a w, a.tmps.size = n → (∀ t ∈ o.looksAt ops, KnowAt S G a w t) → Knows w0 H w →
    (if Region.wanted o (yielded ops a.tmps) then Yields P w T ((execOp a.eval o).run P w) else T undef w)

/-- It lays a new block and yields its address. -/
def Allocs (P : Program) (n : Nat) (w0 : Base) (ops : Array Oper) (H : Heap) (S : Slots) (G : Ghosts) (o : Oper) : Prop :=
  ∀ a w, a.tmps.size = n → (∀ t ∈ o.looksAt ops, KnowAt S G a w t) → Knows w0 H w →
    Region.wanted o (yielded ops a.tmps) = true ∧ ∃ ob, (execOp a.eval o).run P w = .ok (.value (.pointer (some ⟨w.heap.size, 0, none⟩))) (w.alloc ob)

def PtrIn (H : Heap) (T : Pred) : Prop := ∀ u w, T u w → ∃ b, u = .pointer (some ⟨b, 0, none⟩) ∧ b < w.heap.size ∧ ∀ x ∈ H, x.2.1 ≠ b

def DoG (P : Program) (n : Nat) (w0 : Base) (ops : Array Oper) (H : Heap) (K : Slots → Ghosts → Prop) : List Oper → Slots → Ghosts → Prop
  | [], S, G => K S G
  | o :: l, S, G => ∃ d T, o.dst = some d ∧ d < n ∧ noSel o = true ∧ Stable T ∧ OpA P n w0 ops H S G o T ∧
      ((∃ v, T = isV v ∧ DoG P n w0 ops H K l ((d, v) :: S) G) ∨ (look S d = none ∧ DoG P n w0 ops H K l S ((d, false, T) :: G)) ∨
       (look S d = none ∧ Allocs P n w0 ops H S G o ∧ PtrIn H T ∧ DoG P n w0 ops H K l S ((d, true, T) :: G)))

/-- What the lexical walk shows, operation by operation: its slot, its property, whether it is a new block; what was known ahead of it. -/
structure Cert where
  d : Nat
  T : Pred
  al : Bool
  S : Slots
  G : Ghosts

structure CertOk (P : Program) (n : Nat) (w0 : Base) (ops : Array Oper) (H : Heap) (o : Oper) (c : Cert) : Prop where
  dst : o.dst = some c.d
  lt : c.d < n
  nosel : noSel o = true
  stable : Stable c.T
  op : OpA P n w0 ops H c.S c.G o c.T
  al : c.al = true → Allocs P n w0 ops H c.S c.G o ∧ PtrIn H c.T

/-- What is known stems from the operations of 'cs' or was known at the start. -/
structure Stems (S0 : Slots) (cs : List Cert) (S : Slots) (G : Ghosts) : Prop where
  slots : ∀ t v, look S t = some v → (∃ c ∈ cs, c.d = t ∧ c.T = isV v) ∨ (look S0 t = some v ∧ ∀ c ∈ cs, c.d ≠ t)
  ghosts : ∀ t T, lookG G t = some T → ∃ c ∈ cs, c.d = t ∧ c.T = T

theorem doG_certs {K : Slots → Ghosts → Prop} {S0 : Slots} : ∀ (l : List Oper) (S : Slots) (G : Ghosts) (pre : List Cert), Stems S0 pre S G → DoG P n w0 ops H K l S G →
    ∃ cs : List Cert, cs.length = l.length ∧ (∀ i o c, l[i]? = some o → cs[i]? = some c → CertOk P n w0 ops H o c ∧ Stems S0 (pre ++ cs.take i) c.S c.G) ∧
      ∃ S' G', Stems S0 (pre ++ cs) S' G' ∧ K S' G' ∧ (∀ x ∈ G', x ∈ G ∨ ∃ c ∈ cs, x = (c.d, c.al, c.T))
  | [], S, G, pre, hs, h => ⟨[], rfl, fun i o c hi => by simp at hi, S, G, by simpa using hs, h, fun x hx => .inl hx⟩
  | o :: l, S, G, pre, hs, h => by
    obtain ⟨d, T, hd, hn, hsel, hst, hop, hk⟩ := h
    have main : ∀ (c : Cert) (S1 : Slots) (G1 : Ghosts), c.S = S → c.G = G → CertOk P n w0 ops H o c → Stems S0 (pre ++ [c]) S1 G1 → (∀ x ∈ G1, x ∈ G ∨ x = (c.d, c.al, c.T)) → DoG P n w0 ops H K l S1 G1 →
        ∃ cs : List Cert, cs.length = (o :: l).length ∧ (∀ i o' c, (o :: l)[i]? = some o' → cs[i]? = some c → CertOk P n w0 ops H o' c ∧ Stems S0 (pre ++ cs.take i) c.S c.G) ∧
          ∃ S' G', Stems S0 (pre ++ cs) S' G' ∧ K S' G' ∧ (∀ x ∈ G', x ∈ G ∨ ∃ c ∈ cs, x = (c.d, c.al, c.T)) := by
      intro c S1 G1 e1 e2 hc hst1 hG1 hrest
      obtain ⟨cs, hl, hall, S', G', h1, h2, h3⟩ := doG_certs l S1 G1 (pre ++ [c]) hst1 hrest
      refine ⟨c :: cs, by simp [hl], fun i o' c' hi hc' => ?_, S', G', by simpa using h1, h2, fun x hx => ?_⟩
      · cases i with
        | zero =>
          simp at hi hc'
          subst hi; subst hc'
          exact ⟨hc, by simpa [e1, e2] using hs⟩
        | succ i =>
          simp at hi hc'
          obtain ⟨q1, q2⟩ := hall i o' c' hi hc'
          exact ⟨q1, by simpa using q2⟩
      · rcases h3 x hx with h | ⟨c', hc', he⟩
        · rcases hG1 x h with h | h
          · exact .inl h
          · exact .inr ⟨c, by simp, h⟩
        · exact .inr ⟨c', by simp [hc'], he⟩
    have gh : ∀ (al : Bool), look S d = none → Stems S0 (pre ++ [⟨d, T, al, S, G⟩]) S ((d, al, T) :: G) := fun al hno => ⟨fun t u ht => by
        have hdt : d ≠ t := fun e => by subst e; rw [hno] at ht; cases ht
        rcases hs.slots t u ht with ⟨c, hc, h⟩ | ⟨h, h'⟩
        · exact .inl ⟨c, by simp [hc], h⟩
        · refine .inr ⟨h, fun c hc => ?_⟩
          rcases List.mem_append.1 hc with hc | hc
          · exact h' c hc
          · simp at hc; subst hc; exact hdt, fun t U ht => by
        by_cases e : d = t
        · subst e
          rw [lookG_cons_same] at ht
          cases ht
          exact ⟨⟨d, T, al, S, G⟩, by simp, rfl, rfl⟩
        · rw [lookG_cons_ne _ _ _ e] at ht
          obtain ⟨c, hc, h⟩ := hs.ghosts t U ht
          exact ⟨c, by simp [hc], h⟩⟩
    have gm : ∀ (al : Bool), ∀ x ∈ ((d, al, T) :: G : Ghosts), x ∈ G ∨ x = (d, al, T) := fun al x hx => by
      rcases List.mem_cons.1 hx with h | h
      · exact .inr h
      · exact .inl h
    rcases hk with ⟨v, rfl, hrest⟩ | ⟨hno, hrest⟩ | ⟨hno, hal, hp, hrest⟩
    · refine main ⟨d, isV v, false, S, G⟩ ((d, v) :: S) G rfl rfl ⟨hd, hn, hsel, hst, hop, fun h => by cases h⟩ ⟨fun t u ht => ?_, fun t T ht => ?_⟩ (fun x hx => .inl hx) hrest
      · by_cases e : d = t
        · subst e
          rw [look_cons_same] at ht
          cases ht
          exact .inl ⟨⟨d, isV v, false, S, G⟩, by simp, rfl, rfl⟩
        · rw [look_cons_ne _ _ e] at ht
          rcases hs.slots t u ht with ⟨c, hc, h⟩ | ⟨h, h'⟩
          · exact .inl ⟨c, by simp [hc], h⟩
          · refine .inr ⟨h, fun c hc => ?_⟩
            rcases List.mem_append.1 hc with hc | hc
            · exact h' c hc
            · simp at hc; subst hc; exact e
      · obtain ⟨c, hc, h⟩ := hs.ghosts t T ht
        exact ⟨c, by simp [hc], h⟩
    · exact main ⟨d, T, false, S, G⟩ S ((d, false, T) :: G) rfl rfl ⟨hd, hn, hsel, hst, hop, fun h => by cases h⟩ (gh false hno) (gm false) hrest
    · exact main ⟨d, T, true, S, G⟩ S ((d, true, T) :: G) rfl rfl ⟨hd, hn, hsel, hst, hop, fun _ => ⟨hal, hp⟩⟩ (gh true hno) (gm true) hrest

/-! ### The orders -/

/-- how many of the first N are not done -/
def undone (listed : Array Bool) : Nat → Nat
  | 0 => 0
  | k + 1 => undone listed k + (if listed.getD k true then 0 else 1)

theorem undone_set_ge {listed : Array Bool} {i : Nat} : ∀ {N : Nat}, N ≤ i → undone (listed.setIfInBounds i true) N = undone listed N
  | 0, _ => rfl
  | k + 1, h => by
    simp only [undone]
    rw [undone_set_ge (by omega), getD_set_ne true (by omega)]

theorem undone_set {listed : Array Bool} {i : Nat} (hi : listed.getD i true = false) : ∀ {N : Nat}, i < N → undone listed N = undone (listed.setIfInBounds i true) N + 1
  | 0, h => by omega
  | k + 1, h => by
    have hlt : i < listed.size := by
      rcases Nat.lt_or_ge i listed.size with h' | h'
      · exact h'
      · simp [Array.getElem?_eq_none h'] at hi
    simp only [undone]
    by_cases e : i = k
    · subst e
      rw [undone_set_ge (Nat.le_refl _), hi]
      simp [hlt]
    · rw [undone_set hi (show i < k by omega), getD_set_ne true e]
      omega

theorem undone_zero {listed : Array Bool} : ∀ {N : Nat}, undone listed N = 0 → ∀ i, i < N → listed.getD i true = true
  | 0, _, i, hi => by omega
  | k + 1, h, i, hi => by
    simp only [undone] at h
    by_cases e : i = k
    · subst e
      cases hb : listed.getD i true with
      | true => rfl
      | false => rw [hb] at h; simp at h
    · exact undone_zero (N := k) (by omega) i (by omega)

theorem undone_first {listed : Array Bool} : ∀ {N : Nat}, undone listed N ≠ 0 → ∃ i, i < N ∧ listed.getD i true = false ∧ ∀ j, j < i → listed.getD j true = true
  | 0, h => absurd rfl h
  | k + 1, h => by
    by_cases hk : undone listed k = 0
    · refine ⟨k, by omega, ?_, fun j hj => undone_zero hk j hj⟩
      simp only [undone, hk] at h
      cases hb : listed.getD k true with
      | false => rfl
      | true => rw [hb] at h; simp at h
    · obtain ⟨i, hi, h1, h2⟩ := undone_first hk
      exact ⟨i, by omega, h1, h2⟩

def backB (ops : Array Oper) : Bool := (List.range ops.size).all fun i => match ops[i]? with
  | some o => o.after.all fun e => !Region.binds .any e || decide (e.on < i)
  | none => true

/-- No two of the first N write one slot; whoever looks at another's slot waits for it. -/
def depB (ops : Array Oper) (N : Nat) : Bool := (List.range N).all fun i => (List.range N).all fun j => i == j ||
  match ops[i]?, ops[j]? with
  | some oi, some oj => oi.dst != oj.dst && (match oi.dst with
      | some d => !(oj.looksAt ops).contains d || (decide (i < j) && Region.waitsFor .any ops j i)
      | none => false)
  | _, _ => false
def selfB (ops : Array Oper) (N : Nat) : Bool := (List.range N).all fun i => match ops[i]? with
  | some o => (match o.dst with | some d => !(o.looksAt ops).contains d | none => false)
  | none => false

structure Inv (S0 : Slots) (w0 : Base) (n : Nat) (H : Heap) (cs : List Cert) (listed : Array Bool) (a : Act) (w : World) : Prop where
  size : a.tmps.size = n
  defers : a.defers = []
  old : ∀ t v, look S0 t = some v → (∀ i c, cs[i]? = some c → c.d = t → listed.getD i false = false) → a.tmps[t]? = some v
  done : ∀ i c, cs[i]? = some c → listed.getD i false = true → ∃ u, a.tmps[c.d]? = some u ∧ c.T u w
  apart : ∀ i j c c', cs[i]? = some c → cs[j]? = some c' → i ≠ j → c.al = true → c'.al = true → listed.getD i false = true → listed.getD j false = true → a.tmps[c.d]? ≠ a.tmps[c'.d]?
  knows : Knows w0 H w

theorem depB_spec {N : Nat} (h : depB ops N = true) {i j : Nat} (hi : i < N) (hj : j < N) (hne : i ≠ j) {oi oj : Oper} (ho : ops[i]? = some oi) (ho' : ops[j]? = some oj) :
    oi.dst ≠ oj.dst ∧ ∀ d, oi.dst = some d → d ∈ oj.looksAt ops → i < j ∧ Region.waitsFor .any ops j i = true := by
  have h1 := List.all_eq_true.1 (List.all_eq_true.1 h i (List.mem_range.2 hi)) j (List.mem_range.2 hj)
  simp only [Bool.or_eq_true, beq_iff_eq, hne, false_or, ho, ho', Bool.and_eq_true, bne_iff_ne] at h1
  refine ⟨h1.1, fun d hd hm => ?_⟩
  have h2 := h1.2
  rw [hd] at h2
  simp only [Bool.or_eq_true, Bool.not_eq_true', Bool.and_eq_true, decide_eq_true_eq] at h2
  rcases h2 with h2 | h2
  · have hm' : (oj.looksAt ops).contains d = true := by simpa using hm
    rw [h2] at hm'
    cases hm'
  · exact h2

theorem selfB_spec {N : Nat} (h : selfB ops N = true) {i : Nat} (hi : i < N) {o : Oper} (ho : ops[i]? = some o) {d : Nat} (hd : o.dst = some d) : d ∉ o.looksAt ops := by
  have h1 := List.all_eq_true.1 h i (List.mem_range.2 hi)
  simp only [ho, hd] at h1
  simpa using h1

variable {S0 : Slots}

theorem step_inv {N : Nat} {cs : List Cert} {listed : Array Bool} {a : Act} {w : World} (hlen : cs.length = N) (hdep : depB ops N = true) (hself : selfB ops N = true)
    (hcs : ∀ i o c, ops[i]? = some o → cs[i]? = some c → CertOk P n w0 ops H o c ∧ Stems S0 (cs.take i) c.S c.G)
    (inv : Inv S0 w0 n H cs listed a w) {i : Nat} (hi : i ∈ Region.ready .any ops listed) (hin : i < N) (hsz : listed.size = ops.size) (hops : N ≤ ops.size) :
    wpOp P ops Q i (fun a' w' => Inv S0 w0 n H cs (listed.setIfInBounds i true) a' w') a w := by
  obtain ⟨hun, o, ho, hall⟩ := mem_ready.1 hi
  have hil : i < cs.length := by omega
  obtain ⟨c, hc⟩ : ∃ c, cs[i]? = some c := ⟨cs[i], List.getElem?_eq_getElem hil⟩
  obtain ⟨ok, st⟩ := hcs i o c ho hc
  have ops_at : ∀ j c', cs[j]? = some c' → j < N ∧ ∃ oj, ops[j]? = some oj ∧ oj.dst = some c'.d := fun j c' hj => by
    have hjl := (List.getElem?_eq_some_iff.1 hj).1
    have hjo : j < ops.size := by omega
    exact ⟨by omega, ops[j], Array.getElem?_eq_getElem hjo, (hcs j ops[j] c' (Array.getElem?_eq_getElem hjo) hj).1.dst⟩
  have waits : ∀ j c', cs[j]? = some c' → j ≠ i → c'.d ∈ o.looksAt ops → j < i ∧ listed.getD j false = true := fun j c' hj hne hm => by
    obtain ⟨hjN, oj, hoj, hdj⟩ := ops_at j c' hj
    obtain ⟨h1, h2⟩ := (depB_spec hdep hjN hin hne hoj ho).2 c'.d hdj hm
    refine ⟨h1, ?_⟩
    obtain ⟨o', ho', e, he, hb, hon⟩ := Region.waitsFor_spec h2
    rw [ho] at ho'
    cases ho'
    have := hall e he hb
    rwa [hon] at this
  have know : ∀ t ∈ o.looksAt ops, KnowAt c.S c.G a w t := fun t ht => by
    have hself' : c.d ≠ t := fun e => selfB_spec hself hin ho ok.dst (e ▸ ht)
    refine ⟨fun v hv => ?_, fun T hT => ?_⟩
    · rcases st.slots t v hv with ⟨c', hm, hd, hTc⟩ | ⟨h0, hno⟩
      · obtain ⟨j, hj⟩ := List.mem_iff_getElem?.1 hm
        rw [List.getElem?_take] at hj
        split at hj
        · rename_i hji
          obtain ⟨_, hdone⟩ := waits j c' hj (by omega) (hd ▸ ht)
          obtain ⟨u, hu, hTu⟩ := inv.done j c' hj hdone
          rw [hTc] at hTu
          rw [← hd, hu]
          exact congrArg some hTu
        · cases hj
      · refine inv.old t v h0 fun j c' hj hd => ?_
        by_cases e : j = i
        · subst e
          rw [hc] at hj
          cases hj
          exact absurd hd hself'
        · obtain ⟨hlt, _⟩ := waits j c' hj e (hd ▸ ht)
          exact absurd hd (hno c' (List.mem_of_getElem? (by rw [List.getElem?_take, if_pos hlt]; exact hj)))
    · obtain ⟨c', hm, hd, hTc⟩ := st.ghosts t T hT
      obtain ⟨j, hj⟩ := List.mem_iff_getElem?.1 hm
      rw [List.getElem?_take] at hj
      split at hj
      · rename_i hji
        obtain ⟨_, hdone⟩ := waits j c' hj (by omega) (hd ▸ ht)
        obtain ⟨u, hu, hTu⟩ := inv.done j c' hj hdone
        exact ⟨u, by rw [← hd]; exact hu, hTc ▸ hTu⟩
      · cases hj
  have hlt : i < listed.size := by omega
  have put_ne : ∀ (u : Value) (t : Nat), c.d ≠ t → (a.put (some c.d) u).tmps[t]? = a.tmps[t]? := fun u t hne => by simp [Act.put, Array.getElem?_setIfInBounds_ne hne]
  have put_eq : ∀ (u : Value), (a.put (some c.d) u).tmps[c.d]? = some u := fun u => by
    have := ok.lt
    have hs := inv.size
    simp [Act.put, hs, this]
  have done_iff : ∀ j, j ≠ i → (listed.setIfInBounds i true).getD j false = listed.getD j false := fun j hj => getD_set_ne false (Ne.symm hj)
  have dne : ∀ j c', cs[j]? = some c' → j ≠ i → c'.d ≠ c.d := fun j c' hj hne e => by
    obtain ⟨hjN, oj, hoj, hdj⟩ := ops_at j c' hj
    exact (depB_spec hdep hjN hin hne hoj ho).1 (by rw [hdj, ok.dst, e])
  have next : ∀ (u : Value) (w' : World), Grow w w' → c.T u w' → (c.al = true → u = .pointer (some ⟨w.heap.size, 0, none⟩)) →
      Inv S0 w0 n H cs (listed.setIfInBounds i true) (a.put o.dst u) w' := fun u w' gr hT hal => by
    rw [ok.dst]
    refine ⟨by simp [Act.put, inv.size], inv.defers, fun t v hv hno => ?_, fun j c' hj hd => ?_, fun j k c' c'' hj hk hne h1 h2 hd1 hd2 => ?_, inv.knows.next gr⟩
    · have hne : c.d ≠ t := fun e => by
        have := hno i c hc e
        simp [hlt] at this
      rw [put_ne u t hne]
      refine inv.old t v hv fun j c' hj hd => ?_
      by_cases e : j = i
      · subst e; rw [hc] at hj; cases hj; exact absurd hd hne
      · rw [← done_iff j e]; exact hno j c' hj hd
    · by_cases e : j = i
      · subst e; rw [hc] at hj; cases hj
        exact ⟨u, put_eq u, hT⟩
      · rw [done_iff j e] at hd
        obtain ⟨u', hu, hTu⟩ := inv.done j c' hj hd
        obtain ⟨_, oj, hoj, _⟩ := ops_at j c' hj
        exact ⟨u', by rw [put_ne u _ (Ne.symm (dne j c' hj e))]; exact hu, (hcs j oj c' hoj hj).1.stable _ _ _ hTu gr⟩
    · have fresh : ∀ j c', cs[j]? = some c' → j ≠ i → c'.al = true → listed.getD j false = true → a.tmps[c'.d]? ≠ some (.pointer (some ⟨w.heap.size, 0, none⟩)) := fun j c' hj e ha hd he => by
        obtain ⟨u', hu, hTu⟩ := inv.done j c' hj hd
        obtain ⟨_, oj, hoj, _⟩ := ops_at j c' hj
        obtain ⟨b, hb, hbl, _⟩ := ((hcs j oj c' hoj hj).1.al ha).2 _ _ hTu
        rw [hu, hb] at he
        simp only [Option.some.injEq, Value.pointer.injEq, Addr.mk.injEq, and_true] at he
        omega
      by_cases e1 : j = i
      · subst e1; rw [hc] at hj; cases hj
        have e2 : k ≠ j := Ne.symm hne
        rw [put_eq, put_ne u _ (Ne.symm (dne k c'' hk e2)), hal h1]
        rw [done_iff k e2] at hd2
        exact Ne.symm (fresh k c'' hk e2 h2 hd2)
      · by_cases e2 : k = i
        · subst e2; rw [hc] at hk; cases hk
          rw [put_eq, put_ne u _ (Ne.symm (dne j c' hj e1)), hal h2]
          rw [done_iff j e1] at hd1
          exact fresh j c' hj e1 h1 hd1
        · rw [put_ne u _ (Ne.symm (dne j c' hj e1)), put_ne u _ (Ne.symm (dne k c'' hk e2))]
          rw [done_iff j e1] at hd1
          rw [done_iff k e2] at hd2
          exact inv.apart j k c' c'' hj hk hne h1 h2 hd1 hd2
  have hrun := ok.op a w inv.size know inv.knows
  unfold wpOp
  simp only [ho]
  split
  · rename_i hw
    rw [if_pos hw] at hrun
    refine .inl ?_
    unfold Oper.wp
    by_cases hal : c.al = true
    · obtain ⟨_, ob, hr⟩ := (ok.al hal).1 a w inv.size know inv.knows
      rw [hr] at hrun ⊢
      simp only [Yields] at hrun
      simp only [Oper.upon]
      exact next _ _ hrun.1 hrun.2 fun _ => rfl
    · have hnal : c.al = true → ∀ u : Value, u = .pointer (some ⟨w.heap.size, 0, none⟩) := fun h => absurd h hal
      generalize (execOp a.eval o).run P w = r at *
      cases r with
      | ok x w' =>
        cases x <;> simp only [Yields] at hrun <;> simp only [Oper.upon]
        case value v => exact next _ _ hrun.1 hrun.2 fun h => hnal h _
        case skip => exact next _ _ hrun.1 hrun.2 fun h => hnal h _
        case enter fn args =>
          refine hrun.2.mono fun e w'' ⟨v, he, hg, ht⟩ => ?_
          subst he
          exact next _ _ (hrun.1.trans hg) ht fun h => hnal h _
      | halt x w' => simp only [Yields] at hrun
  · rename_i hw
    rw [if_neg hw] at hrun
    refine next _ _ (Grow.refl _) hrun fun hal => ?_
    have := ((ok.al hal).1 a w inv.size know inv.knows).1
    exact absurd this hw

/-- What stands behind the operations that come in any order: everything is known of their slots. -/
def Tail (P : Program) (n : Nat) (w0 : Base) (ops : Array Oper) (Q : Exit → Act → World → Prop) (tl : List Oper) (F : World → Prop) (S : Slots) (H : Heap) (G : Ghosts) : Prop :=
  ∀ a w, Fits n S a → Knows w0 H w → (∀ x ∈ G, ∃ u, a.tmps[x.1]? = some u ∧ x.2.2 u w) →
    (∀ x ∈ G, ∀ y ∈ G, x.1 ≠ y.1 → x.2.1 = true → y.2.1 = true → a.tmps[x.1]? ≠ a.tmps[y.1]?) →
    (∀ x ∈ G, x.2.1 = true → ∀ y ∈ H, a.tmps[x.1]? ≠ some (.pointer (some ⟨y.2.1, 0, none⟩))) → F w → wpList P ops Q tl a w

def drawB (ops : Array Oper) (N : Nat) : Bool :=
  depB ops N && selfB ops N && backB ops && decide (N < ops.size) && Region.sinkB .any ops N && Region.chainB .any ops N &&
    Region.seqB .any ops (ops.size - N) N (Array.replicate N true ++ Array.replicate (ops.size - N) false)

theorem wpAny_main {N : Nat} {cs : List Cert} {l : List Oper} {S' : Slots} {G' : Ghosts} (hB : drawB l.toArray N = true) (hlen : cs.length = N)
    (hcs : ∀ i o c, l.toArray[i]? = some o → cs[i]? = some c → CertOk P n w0 l.toArray H o c ∧ Stems S0 (cs.take i) c.S c.G)
    (hst : Stems S0 cs S' G') (hG : ∀ x ∈ G', ∃ c ∈ cs, x = (c.d, c.al, c.T)) (hK : Tail P n w0 l.toArray Q (l.drop N) (fun _ => True) S' H G') :
    ∀ (f : Nat) (listed : Array Bool) (a : Act) (w : World), HeadInv .any l.toArray N listed → undone listed N = f → Inv S0 w0 n H cs listed a w →
      wpAny P .any l.toArray Q (f + (l.toArray.size - N)) listed a w := by
  simp only [drawB, Bool.and_eq_true, decide_eq_true_eq] at hB
  obtain ⟨⟨⟨⟨⟨⟨hdep, hself⟩, hback⟩, hN⟩, hsink⟩, hchain⟩, hseq⟩ := hB
  intro f
  induction f with
  | zero =>
    intro listed a w hh hu inv
    rw [Nat.zero_add]
    have hall := undone_zero hu
    have hcan : listed = Array.replicate N true ++ Array.replicate (l.toArray.size - N) false := by
      apply Array.ext
      · simp [hh.size]; simp at hN; omega
      · intro i h1 h2
        rw [Array.getElem_append]
        split
        · rename_i hi
          simp at hi
          have := hall i hi
          simp [h1] at this
          simp [this]
        · rename_i hi
          simp at hi
          have := hh.tail i hi (by rw [← hh.size]; exact h1)
          simp [h1] at this
          simp [this]
    have hdone : ∀ i, i < N → listed.getD i false = true := fun i hi => by
      have h1 := hall i hi
      have : i < listed.size := by rw [hh.size]; omega
      simp [this] at h1 ⊢
      exact h1
    have hcN : ∀ i c, cs[i]? = some c → i < N := fun i c hc => by have := (List.getElem?_eq_some_iff.1 hc).1; omega
    have fits : Fits n S' a := ⟨inv.size, inv.defers, fun t v ht => by
      rcases hst.slots t v ht with ⟨c, hc, hd, hT⟩ | ⟨h0, hno⟩
      · obtain ⟨i, hi⟩ := List.mem_iff_getElem?.1 hc
        obtain ⟨u, hu, hTu⟩ := inv.done i c hi (hdone i (hcN i c hi))
        rw [hT] at hTu
        rw [← hd, hu]
        exact congrArg some hTu
      · exact inv.old t v h0 fun i c hi hd => absurd hd (hno c (List.mem_of_getElem? hi))⟩
    have := hK a w fits inv.knows (fun x hx => by
        obtain ⟨c, hc, rfl⟩ := hG x hx
        obtain ⟨i, hi⟩ := List.mem_iff_getElem?.1 hc
        exact inv.done i c hi (hdone i (hcN i c hi)))
      (fun x hx y hy hne hx1 hy1 => by
        obtain ⟨c, hc, rfl⟩ := hG x hx
        obtain ⟨c', hc', rfl⟩ := hG y hy
        obtain ⟨i, hi⟩ := List.mem_iff_getElem?.1 hc
        obtain ⟨j, hj⟩ := List.mem_iff_getElem?.1 hc'
        exact inv.apart i j c c' hi hj (fun e => by subst e; rw [hi] at hj; cases hj; exact hne rfl) hx1 hy1 (hdone i (hcN i c hi)) (hdone j (hcN j c' hj)))
      (fun x hx hx1 y hy he => by
        obtain ⟨c, hc, rfl⟩ := hG x hx
        obtain ⟨i, hi⟩ := List.mem_iff_getElem?.1 hc
        obtain ⟨u, hu, hTu⟩ := inv.done i c hi (hdone i (hcN i c hi))
        have hio : i < l.toArray.size := by have := hcN i c hi; omega
        obtain ⟨b, hb, _, hno⟩ := ((hcs i _ c (Array.getElem?_eq_getElem hio) hi).1.al hx1).2 _ _ hTu
        rw [hu, hb] at he
        simp only [Option.some.injEq, Value.pointer.injEq, Addr.mk.injEq, and_true] at he
        exact hno y hy he.symm) trivial
    have hl : (l.drop N).length = l.toArray.size - N := by simp
    rw [← hl]
    exact wpAny_of_seq (l.drop N) N listed a w (fun j => by simp [List.getElem?_drop]) (by rw [hl, hcan]; exact hseq) this
  | succ f ih =>
    intro listed a w hh hu inv
    rw [show f + 1 + (l.toArray.size - N) = (f + (l.toArray.size - N)) + 1 by omega]
    obtain ⟨i0, hi0, hun0, hbefore⟩ := undone_first (listed := listed) (N := N) (by omega)
    have hready : i0 ∈ Region.ready .any l.toArray listed := by
      have hlt : i0 < l.toArray.size := by omega
      refine mem_ready.2 ⟨hun0, l.toArray[i0], Array.getElem?_eq_getElem hlt, fun e he hb => ?_⟩
      have h1 := List.all_eq_true.1 hback i0 (List.mem_range.2 hlt)
      simp only [Array.getElem?_eq_getElem hlt] at h1
      have h2 := Array.all_eq_true_iff_forall_mem.1 h1 e he
      simp only [hb, Bool.not_true, Bool.false_or, decide_eq_true_eq] at h2
      have h3 := hbefore e.on h2
      have : e.on < listed.size := by rw [hh.size]; omega
      simp [this] at h3 ⊢
      exact h3
    refine ⟨fun h0 => (by rw [h0] at hready; cases hready), fun i hi => ?_⟩
    have hiN : i < N := by
      rcases Nat.lt_or_ge i N with h | h
      · exact h
      · exact absurd hi (tail_waits hsink hchain hN hh _ i0 rfl hi0 hun0 i h)
    have hun := (mem_ready.1 hi).1
    refine wpOp_mono (fun a' w' h => ?_) (step_inv hlen hdep hself hcs inv hi hiN hh.size (by omega))
    have := undone_set hun hiN
    exact ih _ a' w' (hh.set hi hiN) (by omega) h

theorem doC_drawn {S : Slots} {l : List Oper} {id : Nat} (N : Nat) (hm : P.follows .mixedOrders = true) (hB : drawB l.toArray N = true)
    (h : DoG P n w0 l.toArray H (fun S' G' => Tail P n w0 l.toArray Q (l.drop N) (fun _ => True) S' H G') (l.take N) S []) : DoC P n w0 Q (.region id l.toArray true) S H := by
  intro a w fa ka
  have hN : N < l.toArray.size := by
    simp only [drawB, Bool.and_eq_true, decide_eq_true_eq] at hB
    exact hB.1.1.1.2
  obtain ⟨cs, hlen, hcs, S', G', hst, hK, hG⟩ := doG_certs (S0 := S) (l.take N) S [] [] ⟨fun t v ht => .inr ⟨ht, fun c hc => by cases hc⟩, fun t T ht => by cases ht⟩ h
  have hlen' : cs.length = N := by rw [hlen]; simp; simp at hN; omega
  refine wp_region_any hm ?_
  have inv0 : HeadInv .any l.toArray N (Array.replicate l.toArray.size false) :=
    ⟨by simp, fun j oj _ hl => (by rw [getD_replicate_false] at hl; cases hl), fun t _ ht => getD_in (by simpa using ht) (getD_replicate_false _ _)⟩
  have hund : undone (Array.replicate l.toArray.size false) N = N := by
    have : ∀ k, k ≤ l.toArray.size → undone (Array.replicate l.toArray.size false) k = k := by
      intro k
      induction k with
      | zero => intro _; rfl
      | succ k ih =>
        intro hk
        have h1 := getD_in (listed := Array.replicate l.toArray.size false) (i := k) (by simp; simp at hk; omega) (getD_replicate_false _ _)
        simp only [undone, ih (by omega), h1]
        rfl
    exact this N (by omega)
  have := wpAny_main (P := P) (n := n) (w0 := w0) (H := H) (S0 := S) (Q := Q) hB hlen' (fun i o c hi hc => by
      have hil := (List.getElem?_eq_some_iff.1 hc).1
      have := hcs i o c (by rw [List.getElem?_take, if_pos (by omega)]; simpa using hi) hc
      simpa using this) (by simpa using hst) (fun x hx => by
        rcases hG x hx with h | h
        · cases h
        · exact h) hK N _ a { w with drawn := w.drawn + 1 } inv0 hund
      ⟨fa.size, fa.defers, fun t v ht _ => fa.has t v ht, fun i c _ hd => (by rw [getD_replicate_false] at hd; cases hd), fun i j c c' _ _ _ _ _ hd => (by rw [getD_replicate_false] at hd; cases hd), ka.next (Grow.refl w).drew⟩
  rwa [show N + (l.toArray.size - N) = l.toArray.size by omega] at this

/-! ### The rules -/
variable {S : Slots} {G : Ghosts} {K : Slots → Ghosts → Prop} {o : Oper} {l : List Oper} {d : Nat}

theorem mem_looksAt {t : Nat} (h : Operand.tmp t ∈ o.op.operands) : t ∈ o.looksAt ops :=
  List.mem_append_left _ (List.mem_filterMap.2 ⟨.tmp t, by simpa using h, rfl⟩)

theorem exec_know {a : Act} (hk : knownB S o = true) (hs : noSel o = true) (h : ∀ t ∈ o.looksAt ops, ∀ v, look S t = some v → a.tmps[t]? = some v) : execOp a.eval o = execOp (evD S) o := by
  refine execOp_congr o (noSel_spec hs) fun x hx => ?_
  have := Array.all_eq_true_iff_forall_mem.1 hk x hx
  obtain ⟨v, hv⟩ := Option.isSome_iff_exists.1 this
  rw [evD_of hv]
  cases x with
  | tmp t => simp [Act.eval, Array.getD_eq_getD_getElem?, h t (mem_looksAt hx) v hv]
  | const u => simpa [Sx.ev, Act.eval] using hv
  | global g => simpa [Sx.ev, Act.eval] using hv
  | func f => simpa [Sx.ev, Act.eval] using hv

theorem wanted_know {a : Act} {b : Bool} (hw : wantedS ops S o = some b) (h : ∀ t ∈ o.looksAt ops, ∀ v, look S t = some v → a.tmps[t]? = some v) : Region.wanted o (yielded ops a.tmps) = b := by
  unfold wantedS at hw
  unfold Region.wanted
  cases hg : o.guard with
  | none => simp [hg] at hw; simp [hw]
  | some gg =>
    obtain ⟨j, c⟩ := gg
    simp only [hg] at hw ⊢
    unfold yielded
    cases hd : (ops[j]?).bind (·.dst) with
    | none => simp [hd] at hw
    | some dd =>
      simp only [hd] at hw
      cases hl : look S dd with
      | none => simp [hl] at hw
      | some v =>
        rw [hl] at hw
        have := h dd (by simp [Oper.looksAt, hg, hd]) v hl
        cases v <;> simp at hw
        simp [this, hw]

theorem opA_of_opT {T : Pred} (ho : OpT P w0 S H o T) (hw : wantedS ops S o = some true) : OpA P n w0 ops H S G o T := fun a w _ hk k => by
  have h1 : ∀ t ∈ o.looksAt ops, ∀ v, look S t = some v → a.tmps[t]? = some v := fun t ht => (hk t ht).1
  rw [wanted_know hw h1, if_pos rfl, exec_know ho.known ho.nosel h1]
  exact ho.run w k

theorem doG_nil (h : K S G) : DoG P n w0 ops H K [] S G := h
theorem doG_v {v : Value} (ho : OpV P w0 S H o v) (hw : wantedS ops S o = some true) (hd : o.dst = some d) (hn : Nat.blt d n = true) (next : DoG P n w0 ops H K l ((d, v) :: S) G) :
    DoG P n w0 ops H K (o :: l) S G :=
  ⟨d, isV v, hd, by simpa using hn, ho.nosel, stable_isV v, opA_of_opT ho hw, .inl ⟨v, rfl, next⟩⟩
theorem doG_skip (hw : wantedS ops S o = some false) (hs : noSel o = true) (hd : o.dst = some d) (hn : Nat.blt d n = true) (next : DoG P n w0 ops H K l ((d, undef) :: S) G) :
    DoG P n w0 ops H K (o :: l) S G :=
  ⟨d, isV undef, hd, by simpa using hn, hs, stable_isV _, fun a w _ hk _ => by
    rw [wanted_know hw fun t ht => (hk t ht).1, if_neg (by simp)]; rfl, .inl ⟨undef, rfl, next⟩⟩
theorem doG_t {T : Pred} (ho : OpT P w0 S H o T) (hT : Stable T) (hw : wantedS ops S o = some true) (hd : o.dst = some d) (hn : Nat.blt d n = true) (hno : look S d = none)
    (next : DoG P n w0 ops H K l S ((d, false, T) :: G)) : DoG P n w0 ops H K (o :: l) S G :=
  ⟨d, T, hd, by simpa using hn, ho.nosel, hT, opA_of_opT ho hw, .inr (.inl ⟨hno, next⟩)⟩
/-- one operand is a slot that is told by a property -/
theorem doG_g1 {v : Value} {T1 : Pred} (t : Nat) (hG : lookG G t = some T1) (hs : noSel o = true) (hk : ∀ u, knownB ((t, u) :: S) o = true)
    (ho : ∀ u w, Knows w0 H w → T1 u w → Yields P w (isV v) ((execOp (evD ((t, u) :: S)) o).run P w)) (hw : ∀ u, wantedS ops ((t, u) :: S) o = some true) (hm : t ∈ o.looksAt ops)
    (hd : o.dst = some d) (hn : Nat.blt d n = true) (next : DoG P n w0 ops H K l ((d, v) :: S) G) : DoG P n w0 ops H K (o :: l) S G :=
  ⟨d, isV v, hd, by simpa using hn, hs, stable_isV v, fun a w _ hkn k => by
    obtain ⟨u, hu, hTu⟩ := (hkn t hm).2 T1 hG
    have h1 : ∀ t' ∈ o.looksAt ops, ∀ v', look ((t, u) :: S) t' = some v' → a.tmps[t']? = some v' := fun t' ht' v' hv' => by
      by_cases e : t = t'
      · subst e; rw [look_cons_same] at hv'; cases hv'; exact hu
      · rw [look_cons_ne _ _ e] at hv'; exact (hkn t' ht').1 v' hv'
    rw [wanted_know (hw u) h1, if_pos rfl, exec_know (hk u) hs h1]
    exact ho u w k hTu, .inl ⟨v, rfl, next⟩⟩

def AllocT (w0 : Base) (H : Heap) (cs : List Value) (ty : TypeId) : Pred := fun u w =>
  ∃ b, u = .pointer (some ⟨b, 0, none⟩) ∧ w0.w.heap.size ≤ b ∧ ((∀ x ∈ H, x.2.1 ≠ b) ∧ ∀ x ∈ w0.R, ¬ x.2.1 b) ∧ w.heap[b]? = some (.cells cs.toArray ty)
theorem stable_allocT {cs : List Value} {ty : TypeId} : Stable (AllocT w0 H cs ty) := fun _ _ _ ⟨b, h1, h2, h3, h4⟩ g => ⟨b, h1, h2, h3, by rw [g.block b (heap_lt h4)]; exact h4⟩

theorem doG_new {cs : List Value} {ty' : TypeId} (hk : knownB S o = true) (hsel : noSel o = true) (hw : wantedS ops S o = some true) (hd : o.dst = some d) (hn : Nat.blt d n = true) (hno : look S d = none)
    (hrun : ∀ w, (execOp (evD S) o).run P w = .ok (.value (.pointer (some ⟨w.heap.size, 0, none⟩))) (w.alloc (.cells cs.toArray ty')))
    (next : DoG P n w0 ops H K l S ((d, true, AllocT w0 H cs ty') :: G)) : DoG P n w0 ops H K (o :: l) S G := by
  have key : ∀ a w, (∀ t ∈ o.looksAt ops, KnowAt S G a w t) → Region.wanted o (yielded ops a.tmps) = true ∧
      (execOp a.eval o).run P w = .ok (.value (.pointer (some ⟨w.heap.size, 0, none⟩))) (w.alloc (.cells cs.toArray ty')) := fun a w hkn => by
    have h1 : ∀ t ∈ o.looksAt ops, ∀ v, look S t = some v → a.tmps[t]? = some v := fun t ht => (hkn t ht).1
    exact ⟨wanted_know hw h1, by rw [exec_know hk hsel h1]; exact hrun w⟩
  refine ⟨d, AllocT w0 H cs ty', hd, by simpa using hn, hsel, stable_allocT, fun a w _ hkn k => ?_, .inr (.inr ⟨hno, fun a w _ hkn _ => ⟨(key a w hkn).1, _, (key a w hkn).2⟩, ?_, next⟩)⟩
  · rw [(key a w hkn).1, if_pos rfl, (key a w hkn).2]
    refine ⟨(Grow.refl w).alloc _, w.heap.size, rfl, k.grow.size, ⟨fun x hx e => ?_, fun x hx hd => ?_⟩, ?_⟩
    · have := heap_lt (k.has x hx).2
      omega
    · have := ((k.facts x hx).at' _ hd).2.1
      omega
    · show (w.heap.push _)[w.heap.size]? = _
      simp
  · rintro u w ⟨b, h1, h2, h3, h4⟩
    exact ⟨b, h1, heap_lt h4, h3.1⟩

theorem doG_alloc {t : TypeId} {ty : TypeId} {pos : String} {af : Array Edge} {g : Option (Nat × Bool)} {z : Value} {cs : List Value} (hz : zeroIs P t z) (hc : copyV z.cells.toList = some cs)
    (hw : wantedS ops S ⟨some d, .alloc t, ty, pos, af, g⟩ = some true) (hn : Nat.blt d n = true) (hno : look S d = none)
    (next : DoG P n w0 ops H K l S ((d, true, AllocT w0 H cs t) :: G)) : DoG P n w0 ops H K (⟨some d, .alloc t, ty, pos, af, g⟩ :: l) S G :=
  doG_new (by simp [knownB, Op.operands]) rfl hw rfl hn hno (fun w => by
    have := copyV_spec hc
    subst this
    simp [execOp, Instr.alloc, run_zero hz, newVar, newRow]) next

variable {tl : List Oper} {F : World → Prop}
theorem tail_nil (h : DoL P n w0 ops Q tl S H) : Tail P n w0 ops Q tl F S H [] := fun a w f k _ _ _ _ => h a w f k
theorem tail_F (h : ∀ a w, Fits n S a → Knows w0 H w → F w → wpList P ops Q tl a w) : Tail P n w0 ops Q tl F S H [] := fun a w f k _ _ _ hF => h a w f k hF

theorem fits_more {a : Act} {u : Value} (f : Fits n S a) (hu : a.tmps[d]? = some u) : Fits n ((d, u) :: S) a := ⟨f.size, f.defers, fun t v ht => by
  by_cases e : d = t
  · subst e; rw [look_cons_same] at ht; cases ht; exact hu
  · rw [look_cons_ne _ _ e] at ht; exact f.has t v ht⟩

theorem tail_alloc {H0 : Heap} {cs : List Value} {ty : TypeId} (id : Nat) (hG : G.all (fun x => !Nat.beq x.1 d) = true)
    (h : ∀ b, Tail P n w0 ops Q tl F ((d, .pointer (some ⟨b, 0, none⟩)) :: S) ((id, b, cs, ty) :: H) G) : Tail P n w0 ops Q tl F S H ((d, true, AllocT w0 H0 cs ty) :: G) := fun a w f k hx hap hH hF => by
  obtain ⟨u, hu, b, rfl, hb, ⟨_, hbR⟩, hblk⟩ := hx _ List.mem_cons_self
  have hdne : ∀ x ∈ G, x.1 ≠ d := fun x hx e => by
    have := List.all_eq_true.1 hG x hx
    rw [e] at this
    simp at this
  refine h b a w (fits_more f hu) ⟨k.grow, fun x hx => ?_, ?_, fun F hF => (k.facts F hF).heap fun x hx => ?_, k.apart⟩ (fun x hx' => hx x (List.mem_cons_of_mem _ hx')) (fun x hx' y hy => hap x (List.mem_cons_of_mem _ hx') y (List.mem_cons_of_mem _ hy))
    (fun x hx' ha y hy => ?_) hF
  · rcases List.mem_cons.1 hx with rfl | hx
    · exact ⟨hb, hblk⟩
    · exact k.has x hx
  · rw [List.map_cons, List.nodup_cons]
    refine ⟨fun hm => ?_, k.nodup⟩
    obtain ⟨y, hy, he⟩ := List.mem_map.1 hm
    refine hH _ List.mem_cons_self rfl y hy ?_
    simp only at he
    rw [hu, he]
  · rcases List.mem_cons.1 hx with rfl | hx
    · exact .inr (hbR F hF)
    · exact .inl ⟨x, hx, rfl⟩
  · rcases List.mem_cons.1 hy with rfl | hy
    · have := hap x (List.mem_cons_of_mem _ hx') _ List.mem_cons_self (hdne x hx') ha rfl
      rw [hu] at this
      exact this
    · exact hH x (List.mem_cons_of_mem _ hx') ha y hy

theorem tail_ghost {T : Pred} (h : ∀ u, Tail P n w0 ops Q tl (fun w => F w ∧ T u w) ((d, u) :: S) H G) : Tail P n w0 ops Q tl F S H ((d, false, T) :: G) := fun a w f k hx hap hH hF => by
  obtain ⟨u, hu, hT⟩ := hx _ List.mem_cons_self
  exact h u a w (fits_more f hu) k (fun x hx' => hx x (List.mem_cons_of_mem _ hx')) (fun x hx' y hy => hap x (List.mem_cons_of_mem _ hx') y (List.mem_cons_of_mem _ hy))
    (fun x hx' => hH x (List.mem_cons_of_mem _ hx')) ⟨hF, hT⟩

end
end Go.Sx

/- A region that draws its order, with operations that change one block, these in a fixed order. For any program. No condition. -/
import Derived.Test.YtonampcmhhhffaaVSxLate
namespace Go.Sx
open Go.RowKit

/-- as Grow, but for one block -/
structure GrowB (b : Nat → Prop) (w w' : World) : Prop where
  os : w'.os = w.os
  tape : w'.tape = w.tape
  output : w'.output = w.output
  size : w.heap.size ≤ w'.heap.size
  block : ∀ k, k < w.heap.size → ¬ b k → w'.heap[k]? = w.heap[k]?

theorem GrowB.of {b : Nat → Prop} {w w' : World} (g : Grow w w') : GrowB b w w' := ⟨g.os, g.tape, g.output, g.size, fun k hk _ => g.block k hk⟩
theorem GrowB.refl (b : Nat → Prop) (w : World) : GrowB b w w := .of (Grow.refl w)
theorem GrowB.trans {b : Nat → Prop} {x y z : World} (h : GrowB b x y) (k : GrowB b y z) : GrowB b x z :=
  ⟨k.os.trans h.os, k.tape.trans h.tape, k.output.trans h.output, Nat.le_trans h.size k.size, fun i hi hb => (k.block i (Nat.lt_of_lt_of_le hi h.size) hb).trans (h.block i hi hb)⟩
theorem GrowB.set (b : Nat) (w : World) (cs : Array Value) : GrowB (· = b) w (w.setRow b cs) := ⟨rfl, rfl, rfl, by simp, fun k _ hb => setRow_other w b k cs hb⟩

def StableB (b : Nat → Prop) (T : Pred) : Prop := ∀ v w w', T v w → GrowB b w w' → T v w'
theorem stableB_isV (b : Nat → Prop) (v : Value) : StableB b (isV v) := fun _ _ _ h _ => h

section
variable {P : Program} {n : Nat} {ops : Array Oper} {Q : Exit → Act → World → Prop} {σ : Type}

/-- What an operation that changes the block b comes to. -/
def YieldsE (P : Program) (b : Nat → Prop) (w : World) (T : Pred) (K : World → Prop) : Result Next → Prop
  | .ok (.value v) w' => GrowB b w w' ∧ T v w' ∧ K w'
  | .ok (.enter f args) w' => GrowB b w w' ∧ Calls P f args w' (fun e w'' => ∃ v, e = .returned v ∧ GrowB b w' w'' ∧ T v w'' ∧ K w'')
  | _ => False

def OpE (P : Program) (n : Nat) (ops : Array Oper) (K1 K2 : World → Prop) (b : Nat → Prop) (S : Slots) (G : Ghosts) (o : Oper) (T : Pred) : Prop :=
  ∀ a w, a.tmps.size = n → (∀ t ∈ o.looksAt ops, KnowAt S G a w t) → K1 w →
    Region.wanted o (yielded ops a.tmps) = true ∧ YieldsE P b w T K2 ((execOp a.eval o).run P w)

/-- the families of worlds and of heaps: they differ in the block b alone -/
structure Fam (b : Nat → Prop) (w1 : Base) (H0 : Heap) (Wf : σ → Base) (Hf : σ → Heap) : Prop where
  size : ∀ s, (Wf s).w.heap.size = w1.w.heap.size
  told : ∀ s, (Wf s).R = w1.R
  adr : ∀ s, (Hf s).map (·.2.1) = H0.map (·.2.1)
  here : ∀ k, b k → k < w1.w.heap.size ∨ k ∈ H0.map (·.2.1)

def PureAt (P : Program) (n : Nat) (ops : Array Oper) (Wf : σ → Base) (Hf : σ → Heap) (S : Slots) (G : Ghosts) (o : Oper) (T : Pred) : Prop := ∀ s', OpA P n (Wf s') ops (Hf s') S G o T

def DoM (P : Program) (n : Nat) (ops : Array Oper) (b : Nat → Prop) (Wf : σ → Base) (Hf : σ → Heap) (H0 : Heap) (es : List Nat) (K : σ → Slots → Ghosts → Prop) : List Oper → Nat → σ → Slots → Ghosts → Prop
  | [], _, s, S, G => K s S G
  | o :: l, i, s, S, G => ∃ d T s2, o.dst = some d ∧ d < n ∧ noSel o = true ∧ StableB b T ∧
      ((es.contains i = false ∧ s2 = s ∧ PureAt P n ops Wf Hf S G o T) ∨ (es.contains i = true ∧ OpE P n ops (Knows (Wf s) (Hf s)) (Knows (Wf s2) (Hf s2)) b S G o T)) ∧
      ((∃ v, T = isV v ∧ DoM P n ops b Wf Hf H0 es K l (i + 1) s2 ((d, v) :: S) G) ∨ (look S d = none ∧ DoM P n ops b Wf Hf H0 es K l (i + 1) s2 S ((d, false, T) :: G)) ∨
       (look S d = none ∧ es.contains i = false ∧ (∀ s', Allocs P n (Wf s') ops (Hf s') S G o) ∧ PtrIn H0 T ∧ DoM P n ops b Wf Hf H0 es K l (i + 1) s2 S ((d, true, T) :: G)))

structure CertOkM (P : Program) (n : Nat) (ops : Array Oper) (b : Nat → Prop) (Wf : σ → Base) (Hf : σ → Heap) (H0 : Heap) (es : List Nat) (i : Nat) (s s2 : σ) (o : Oper) (c : Cert) : Prop where
  dst : o.dst = some c.d
  lt : c.d < n
  nosel : noSel o = true
  stable : StableB b c.T
  op : (es.contains i = false ∧ s2 = s ∧ PureAt P n ops Wf Hf c.S c.G o c.T) ∨ (es.contains i = true ∧ OpE P n ops (Knows (Wf s) (Hf s)) (Knows (Wf s2) (Hf s2)) b c.S c.G o c.T)
  al : c.al = true → (es.contains i = false ∧ ∀ s', Allocs P n (Wf s') ops (Hf s') c.S c.G o) ∧ PtrIn H0 c.T

variable {b : Nat → Prop} {Wf : σ → Base} {Hf : σ → Heap} {H0 : Heap} {es : List Nat} {w1 : Base}

theorem doM_certs {K : σ → Slots → Ghosts → Prop} {S0 : Slots} : ∀ (l : List Oper) (i0 : Nat) (s : σ) (S : Slots) (G : Ghosts) (pre : List Cert), Stems S0 pre S G → DoM P n ops b Wf Hf H0 es K l i0 s S G →
    ∃ (cs : List Cert) (ss : Nat → σ), cs.length = l.length ∧ ss i0 = s ∧ (∀ i o c, l[i]? = some o → cs[i]? = some c → CertOkM P n ops b Wf Hf H0 es (i0 + i) (ss (i0 + i)) (ss (i0 + i + 1)) o c ∧ Stems S0 (pre ++ cs.take i) c.S c.G) ∧
      ∃ S' G', Stems S0 (pre ++ cs) S' G' ∧ K (ss (i0 + l.length)) S' G' ∧ (∀ x ∈ G', x ∈ G ∨ ∃ c ∈ cs, x = (c.d, c.al, c.T))
  | [], i0, s, S, G, pre, hs, h => ⟨[], fun _ => s, rfl, rfl, fun i o c hi => by simp at hi, S, G, by simpa using hs, h, fun x hx => .inl hx⟩
  | o :: l, i0, s, S, G, pre, hs, h => by
    obtain ⟨d, T, s2, hd, hn, hsel, hst, hop, hk⟩ := h
    have main : ∀ (c : Cert) (S1 : Slots) (G1 : Ghosts), c.S = S → c.G = G → CertOkM P n ops b Wf Hf H0 es i0 s s2 o c → Stems S0 (pre ++ [c]) S1 G1 → (∀ x ∈ G1, x ∈ G ∨ x = (c.d, c.al, c.T)) → DoM P n ops b Wf Hf H0 es K l (i0 + 1) s2 S1 G1 →
        ∃ (cs : List Cert) (ss : Nat → σ), cs.length = (o :: l).length ∧ ss i0 = s ∧ (∀ i o' c, (o :: l)[i]? = some o' → cs[i]? = some c → CertOkM P n ops b Wf Hf H0 es (i0 + i) (ss (i0 + i)) (ss (i0 + i + 1)) o' c ∧ Stems S0 (pre ++ cs.take i) c.S c.G) ∧
          ∃ S' G', Stems S0 (pre ++ cs) S' G' ∧ K (ss (i0 + (o :: l).length)) S' G' ∧ (∀ x ∈ G', x ∈ G ∨ ∃ c ∈ cs, x = (c.d, c.al, c.T)) := by
      intro c S1 G1 e1 e2 hc hst1 hG1 hrest
      obtain ⟨cs, ss, hl, h0, hall, S', G', h1, h2, h3⟩ := doM_certs l (i0 + 1) s2 S1 G1 (pre ++ [c]) hst1 hrest
      have hss : ∀ k, i0 < k → (if k = i0 then s else ss k) = ss k := fun k hk => if_neg (by omega)
      refine ⟨c :: cs, fun k => if k = i0 then s else ss k, by simp [hl], if_pos rfl, fun i o' c' hi hc' => ?_, S', G', by simpa using h1, ?_, fun x hx => ?_⟩
      · cases i with
        | zero =>
          simp at hi hc'
          subst hi; subst hc'
          refine ⟨?_, by simpa [e1, e2] using hs⟩
          show CertOkM P n ops b Wf Hf H0 es i0 (if i0 = i0 then s else ss i0) (if i0 + 1 = i0 then s else ss (i0 + 1)) o c
          rw [if_pos rfl, hss _ (by omega), h0]
          exact hc
        | succ i =>
          simp at hi hc'
          obtain ⟨q1, q2⟩ := hall i o' c' hi hc'
          refine ⟨?_, by simpa using q2⟩
          show CertOkM P n ops b Wf Hf H0 es (i0 + (i + 1)) (if i0 + (i + 1) = i0 then s else ss (i0 + (i + 1))) (if i0 + (i + 1) + 1 = i0 then s else ss (i0 + (i + 1) + 1)) o' c'
          rw [hss _ (by omega), hss _ (by omega), show i0 + (i + 1) = i0 + 1 + i by omega]
          exact q1
      · show K (if i0 + (o :: l).length = i0 then s else ss (i0 + (o :: l).length)) S' G'
        rw [hss _ (by simp), show i0 + (o :: l).length = i0 + 1 + l.length by simp; omega]
        exact h2
      · rcases h3 x hx with h | ⟨c', hc', he⟩
        · rcases hG1 x h with h | h
          · exact .inl h
          · exact .inr ⟨c, by simp, h⟩
        · exact .inr ⟨c', by simp [hc'], he⟩
    have gh : ∀ (al : Bool), look S d = none → Stems S0 (pre ++ [⟨d, T, al, S, G⟩]) S ((d, al, T) :: G) := fun al hno => ⟨fun t u ht => by
        have hdt : d ≠ t := fun e => by subst e; rw [hno] at ht; cases ht
        rcases hs.slots t u ht with ⟨c, hc, h⟩ | ⟨h, h'⟩
        · exact .inl ⟨c, by simp [hc], h⟩
        · refine .inr ⟨h, fun c hc => ?_⟩
          rcases List.mem_append.1 hc with hc | hc
          · exact h' c hc
          · simp at hc; subst hc; exact hdt, fun t U ht => by
        by_cases e : d = t
        · subst e
          rw [lookG_cons_same] at ht
          cases ht
          exact ⟨⟨d, T, al, S, G⟩, by simp, rfl, rfl⟩
        · rw [lookG_cons_ne _ _ _ e] at ht
          obtain ⟨c, hc, h⟩ := hs.ghosts t U ht
          exact ⟨c, by simp [hc], h⟩⟩
    have gm : ∀ (al : Bool), ∀ x ∈ ((d, al, T) :: G : Ghosts), x ∈ G ∨ x = (d, al, T) := fun al x hx => by
      rcases List.mem_cons.1 hx with h | h
      · exact .inr h
      · exact .inl h
    rcases hk with ⟨v, rfl, hrest⟩ | ⟨hno, hrest⟩ | ⟨hno, hne, hal, hp, hrest⟩
    · refine main ⟨d, isV v, false, S, G⟩ ((d, v) :: S) G rfl rfl ⟨hd, hn, hsel, hst, hop, fun h => by cases h⟩ ⟨fun t u ht => ?_, fun t T ht => ?_⟩ (fun x hx => .inl hx) hrest
      · by_cases e : d = t
        · subst e
          rw [look_cons_same] at ht
          cases ht
          exact .inl ⟨⟨d, isV v, false, S, G⟩, by simp, rfl, rfl⟩
        · rw [look_cons_ne _ _ e] at ht
          rcases hs.slots t u ht with ⟨c, hc, h⟩ | ⟨h, h'⟩
          · exact .inl ⟨c, by simp [hc], h⟩
          · refine .inr ⟨h, fun c hc => ?_⟩
            rcases List.mem_append.1 hc with hc | hc
            · exact h' c hc
            · simp at hc; subst hc; exact e
      · obtain ⟨c, hc, h⟩ := hs.ghosts t T ht
        exact ⟨c, by simp [hc], h⟩
    · exact main ⟨d, T, false, S, G⟩ S ((d, false, T) :: G) rfl rfl ⟨hd, hn, hsel, hst, hop, fun h => by cases h⟩ (gh false hno) (gm false) hrest
    · exact main ⟨d, T, true, S, G⟩ S ((d, true, T) :: G) rfl rfl ⟨hd, hn, hsel, hst, hop, fun _ => ⟨⟨hne, hal⟩, hp⟩⟩ (gh true hno) (gm true) hrest

/-! ### the order of those that change the block -/
def depsB (ops : Array Oper) : Nat → Nat → Nat → Bool
  | 0, _, _ => false
  | f + 1, i, j => match ops[i]? with
    | some o => o.after.any fun e => Region.binds .any e && (e.on == j || depsB ops f e.on j)
    | none => false
def esB (ops : Array Oper) (es : List Nat) : Bool := es.all fun i => es.all fun j => Nat.ble i j || depsB ops ops.size i j

theorem deps_listed {listed : Array Bool} (hcl : ∀ j oj, ops[j]? = some oj → listed.getD j false = true → ∀ e ∈ oj.after, Region.binds .any e = true → listed.getD e.on false = true) :
    ∀ f i j, depsB ops f i j = true → (∀ o, ops[i]? = some o → ∀ e ∈ o.after, Region.binds .any e = true → listed.getD e.on false = true) → listed.getD j false = true
  | 0, _, _, h, _ => by cases h
  | f + 1, i, j, h, hi => by
    unfold depsB at h
    cases ho : ops[i]? with
    | none => simp [ho] at h
    | some o =>
      simp only [ho] at h
      obtain ⟨e, he, hb⟩ := Array.any_eq_true'.1 h
      simp only [Bool.and_eq_true, Bool.or_eq_true, beq_iff_eq] at hb
      have hl := hi o ho e he hb.1
      rcases hb.2 with h2 | h2
      · rw [← h2]; exact hl
      · exact deps_listed hcl f e.on j h2 fun o' ho' e' he' hb' => hcl e.on o' ho' hl e' he' hb'

structure InvM (S0 : Slots) (Wf : σ → Base) (Hf : σ → Heap) (es : List Nat) (ss : Nat → σ) (N n : Nat) (cs : List Cert) (listed : Array Bool) (a : Act) (w : World) : Prop where
  size : a.tmps.size = n
  defers : a.defers = []
  old : ∀ t v, look S0 t = some v → (∀ i c, cs[i]? = some c → c.d = t → listed.getD i false = false) → a.tmps[t]? = some v
  done : ∀ i c, cs[i]? = some c → listed.getD i false = true → ∃ u, a.tmps[c.d]? = some u ∧ c.T u w
  apart : ∀ i j c c', cs[i]? = some c → cs[j]? = some c' → i ≠ j → c.al = true → c'.al = true → listed.getD i false = true → listed.getD j false = true → a.tmps[c.d]? ≠ a.tmps[c'.d]?
  knows : ∃ m, m ≤ N ∧ Knows (Wf (ss m)) (Hf (ss m)) w ∧ ∀ i, i < N → es.contains i = true → (listed.getD i false = true ↔ i < m)

variable {S0 : Slots}

theorem ss_same {N : Nat} {ss : Nat → σ} (h : ∀ i, i < N → es.contains i = false → ss (i + 1) = ss i) : ∀ (k m : Nat), m + k ≤ N → (∀ i, m ≤ i → i < m + k → es.contains i = false) → ss (m + k) = ss m
  | 0, _, _, _ => rfl
  | k + 1, m, hle, hno => by
    rw [← Nat.add_assoc, h (m + k) (by omega) (hno _ (by omega) (by omega))]
    exact ss_same h k m (by omega) fun i h1 h2 => hno i h1 (by omega)

theorem step_invM {N : Nat} {cs : List Cert} {ss : Nat → σ} {listed : Array Bool} {a : Act} {w : World} (hlen : cs.length = N) (hdep : depB ops N = true) (hself : selfB ops N = true) (hes : esB ops es = true)
    (hcl : ∀ j oj, ops[j]? = some oj → listed.getD j false = true → ∀ e ∈ oj.after, Region.binds .any e = true → listed.getD e.on false = true)
    (hcs : ∀ i o c, ops[i]? = some o → cs[i]? = some c → CertOkM P n ops b Wf Hf H0 es i (ss i) (ss (i + 1)) o c ∧ Stems S0 (cs.take i) c.S c.G)
    (inv : InvM S0 Wf Hf es ss N n cs listed a w) {i : Nat} (hi : i ∈ Region.ready .any ops listed) (hin : i < N) (hsz : listed.size = ops.size) (hops : N ≤ ops.size) :
    wpOp P ops Q i (fun a' w' => InvM S0 Wf Hf es ss N n cs (listed.setIfInBounds i true) a' w') a w := by
  obtain ⟨hun, o, ho, hall⟩ := mem_ready.1 hi
  have hil : i < cs.length := by omega
  obtain ⟨c, hc⟩ : ∃ c, cs[i]? = some c := ⟨cs[i], List.getElem?_eq_getElem hil⟩
  obtain ⟨ok, st⟩ := hcs i o c ho hc
  have ops_at : ∀ j c', cs[j]? = some c' → j < N ∧ ∃ oj, ops[j]? = some oj ∧ oj.dst = some c'.d := fun j c' hj => by
    have hjl := (List.getElem?_eq_some_iff.1 hj).1
    have hjo : j < ops.size := by omega
    exact ⟨by omega, ops[j], Array.getElem?_eq_getElem hjo, (hcs j ops[j] c' (Array.getElem?_eq_getElem hjo) hj).1.dst⟩
  have waits : ∀ j c', cs[j]? = some c' → j ≠ i → c'.d ∈ o.looksAt ops → j < i ∧ listed.getD j false = true := fun j c' hj hne hm => by
    obtain ⟨hjN, oj, hoj, hdj⟩ := ops_at j c' hj
    obtain ⟨h1, h2⟩ := (depB_spec hdep hjN hin hne hoj ho).2 c'.d hdj hm
    refine ⟨h1, ?_⟩
    obtain ⟨o', ho', e, he, hb, hon⟩ := Region.waitsFor_spec h2
    rw [ho] at ho'
    cases ho'
    have := hall e he hb
    rwa [hon] at this
  have know : ∀ t ∈ o.looksAt ops, KnowAt c.S c.G a w t := fun t ht => by
    have hself' : c.d ≠ t := fun e => selfB_spec hself hin ho ok.dst (e ▸ ht)
    refine ⟨fun v hv => ?_, fun T hT => ?_⟩
    · rcases st.slots t v hv with ⟨c', hm, hd, hTc⟩ | ⟨h0, hno⟩
      · obtain ⟨j, hj⟩ := List.mem_iff_getElem?.1 hm
        rw [List.getElem?_take] at hj
        split at hj
        · rename_i hji
          obtain ⟨_, hdone⟩ := waits j c' hj (by omega) (hd ▸ ht)
          obtain ⟨u, hu, hTu⟩ := inv.done j c' hj hdone
          rw [hTc] at hTu
          rw [← hd, hu]
          exact congrArg some hTu
        · cases hj
      · refine inv.old t v h0 fun j c' hj hd => ?_
        by_cases e : j = i
        · subst e
          rw [hc] at hj
          cases hj
          exact absurd hd hself'
        · obtain ⟨hlt, _⟩ := waits j c' hj e (hd ▸ ht)
          exact absurd hd (hno c' (List.mem_of_getElem? (by rw [List.getElem?_take, if_pos hlt]; exact hj)))
    · obtain ⟨c', hm, hd, hTc⟩ := st.ghosts t T hT
      obtain ⟨j, hj⟩ := List.mem_iff_getElem?.1 hm
      rw [List.getElem?_take] at hj
      split at hj
      · rename_i hji
        obtain ⟨_, hdone⟩ := waits j c' hj (by omega) (hd ▸ ht)
        obtain ⟨u, hu, hTu⟩ := inv.done j c' hj hdone
        exact ⟨u, by rw [← hd]; exact hu, hTc ▸ hTu⟩
      · cases hj
  have hlt : i < listed.size := by omega
  have put_ne : ∀ (u : Value) (t : Nat), c.d ≠ t → (a.put (some c.d) u).tmps[t]? = a.tmps[t]? := fun u t hne => by simp [Act.put, Array.getElem?_setIfInBounds_ne hne]
  have put_eq : ∀ (u : Value), (a.put (some c.d) u).tmps[c.d]? = some u := fun u => by
    have := ok.lt
    have hs := inv.size
    simp [Act.put, hs, this]
  have done_iff : ∀ j, j ≠ i → (listed.setIfInBounds i true).getD j false = listed.getD j false := fun j hj => getD_set_ne false (Ne.symm hj)
  have dne : ∀ j c', cs[j]? = some c' → j ≠ i → c'.d ≠ c.d := fun j c' hj hne e => by
    obtain ⟨hjN, oj, hoj, hdj⟩ := ops_at j c' hj
    exact (depB_spec hdep hjN hin hne hoj ho).1 (by rw [hdj, ok.dst, e])
  have next : ∀ (u : Value) (w' : World), GrowB b w w' → c.T u w' → (c.al = true → u = .pointer (some ⟨w.heap.size, 0, none⟩)) →
      (∃ m, m ≤ N ∧ Knows (Wf (ss m)) (Hf (ss m)) w' ∧ ∀ i', i' < N → es.contains i' = true → ((listed.setIfInBounds i true).getD i' false = true ↔ i' < m)) →
      InvM S0 Wf Hf es ss N n cs (listed.setIfInBounds i true) (a.put o.dst u) w' := fun u w' gr hT hal hkn => by
    rw [ok.dst]
    refine ⟨by simp [Act.put, inv.size], inv.defers, fun t v hv hno => ?_, fun j c' hj hd => ?_, fun j k c' c'' hj hk hne h1 h2 hd1 hd2 => ?_, hkn⟩
    · have hne : c.d ≠ t := fun e => by
        have := hno i c hc e
        simp [hlt] at this
      rw [put_ne u t hne]
      refine inv.old t v hv fun j c' hj hd => ?_
      by_cases e : j = i
      · subst e; rw [hc] at hj; cases hj; exact absurd hd hne
      · rw [← done_iff j e]; exact hno j c' hj hd
    · by_cases e : j = i
      · subst e; rw [hc] at hj; cases hj
        exact ⟨u, put_eq u, hT⟩
      · rw [done_iff j e] at hd
        obtain ⟨u', hu, hTu⟩ := inv.done j c' hj hd
        obtain ⟨_, oj, hoj, _⟩ := ops_at j c' hj
        exact ⟨u', by rw [put_ne u _ (Ne.symm (dne j c' hj e))]; exact hu, (hcs j oj c' hoj hj).1.stable _ _ _ hTu gr⟩
    · have fresh : ∀ j c', cs[j]? = some c' → j ≠ i → c'.al = true → listed.getD j false = true → a.tmps[c'.d]? ≠ some (.pointer (some ⟨w.heap.size, 0, none⟩)) := fun j c' hj e ha hd he => by
        obtain ⟨u', hu, hTu⟩ := inv.done j c' hj hd
        obtain ⟨_, oj, hoj, _⟩ := ops_at j c' hj
        obtain ⟨bb, hb, hbl, _⟩ := ((hcs j oj c' hoj hj).1.al ha).2 _ _ hTu
        rw [hu, hb] at he
        simp only [Option.some.injEq, Value.pointer.injEq, Addr.mk.injEq, and_true] at he
        omega
      by_cases e1 : j = i
      · subst e1; rw [hc] at hj; cases hj
        have e2 : k ≠ j := Ne.symm hne
        rw [put_eq, put_ne u _ (Ne.symm (dne k c'' hk e2)), hal h1]
        rw [done_iff k e2] at hd2
        exact Ne.symm (fresh k c'' hk e2 h2 hd2)
      · by_cases e2 : k = i
        · subst e2; rw [hc] at hk; cases hk
          rw [put_eq, put_ne u _ (Ne.symm (dne j c' hj e1)), hal h2]
          rw [done_iff j e1] at hd1
          exact fresh j c' hj e1 h1 hd1
        · rw [put_ne u _ (Ne.symm (dne j c' hj e1)), put_ne u _ (Ne.symm (dne k c'' hk e2))]
          rw [done_iff j e1] at hd1
          rw [done_iff k e2] at hd2
          exact inv.apart j k c' c'' hj hk hne h1 h2 hd1 hd2
  obtain ⟨m, hmN, hkm, hm⟩ := inv.knows
  rcases ok.op with ⟨hpure, _, hop⟩ | ⟨heff, hop⟩
  · have hrun := hop _ a w inv.size know hkm
    have kn : ∀ w', Grow w w' → ∃ m, m ≤ N ∧ Knows (Wf (ss m)) (Hf (ss m)) w' ∧ ∀ i', i' < N → es.contains i' = true → ((listed.setIfInBounds i true).getD i' false = true ↔ i' < m) := fun w' gr =>
      ⟨m, hmN, hkm.next gr, fun i' h1 h2 => by
        have : i' ≠ i := fun e => by rw [e, hpure] at h2; cases h2
        rw [done_iff i' this]; exact hm i' h1 h2⟩
    unfold wpOp
    simp only [ho]
    split
    · rename_i hw
      rw [if_pos hw] at hrun
      refine .inl ?_
      unfold Oper.wp
      by_cases hal : c.al = true
      · obtain ⟨_, ob, hr⟩ := (ok.al hal).1.2 _ a w inv.size know hkm
        rw [hr] at hrun ⊢
        simp only [Yields] at hrun
        simp only [Oper.upon]
        exact next _ _ (.of hrun.1) hrun.2 (fun _ => rfl) (kn _ hrun.1)
      · have hnal : c.al = true → ∀ u : Value, u = .pointer (some ⟨w.heap.size, 0, none⟩) := fun h => absurd h hal
        generalize (execOp a.eval o).run P w = r at *
        cases r with
        | ok x w' =>
          cases x <;> simp only [Yields] at hrun <;> simp only [Oper.upon]
          case value v => exact next _ _ (.of hrun.1) hrun.2 (fun h => hnal h _) (kn _ hrun.1)
          case skip => exact next _ _ (.of hrun.1) hrun.2 (fun h => hnal h _) (kn _ hrun.1)
          case enter fn args =>
            refine hrun.2.mono fun e w'' ⟨v, he, hg, ht⟩ => ?_
            subst he
            exact next _ _ (.of (hrun.1.trans hg)) ht (fun h => hnal h _) (kn _ (hrun.1.trans hg))
        | halt x w' => simp only [Yields] at hrun
    · rename_i hw
      rw [if_neg hw] at hrun
      refine next _ _ (GrowB.refl _ _) hrun (fun hal => ?_) (kn _ (Grow.refl _))
      have := ((ok.al hal).1.2 _ a w inv.size know hkm).1
      exact absurd this hw
  · have hnal : ¬ c.al = true := fun h => by rw [(ok.al h).1.1] at heff; cases heff
    have hmi : m ≤ i := by
      rcases Nat.lt_or_ge i m with h | h
      · have := (hm i hin heff).2 h
        rw [getD_both hun] at this
        cases this
      · exact h
    have before : ∀ j, m ≤ j → j < i → es.contains j = false := fun j h1 h2 => by
      cases hej : es.contains j with
      | false => rfl
      | true =>
        have hd : depsB ops ops.size i j = true := by
          have h3 := List.all_eq_true.1 (List.all_eq_true.1 hes i (by simpa using heff)) j (by simpa using hej)
          simp only [Bool.or_eq_true, Nat.ble_eq] at h3
          rcases h3 with h3 | h3
          · omega
          · exact h3
        have hl := deps_listed hcl _ i j hd fun o' ho' e he hb => by
          rw [ho] at ho'
          cases ho'
          exact hall e he hb
        have := (hm j (by omega) hej).1 hl
        omega
    have hpure' : ∀ j, j < N → es.contains j = false → ss (j + 1) = ss j := fun j hj hno => by
      have hjo : j < ops.size := by omega
      have hjl : j < cs.length := by omega
      rcases (hcs j ops[j] cs[j] (Array.getElem?_eq_getElem hjo) (List.getElem?_eq_getElem hjl)).1.op with h | h
      · exact h.2.1
      · rw [hno] at h; cases h.1
    have hse : ss i = ss m := by
      have := ss_same hpure' (i - m) m (by omega) fun j h1 h2 => before j h1 (by omega)
      rwa [show m + (i - m) = i by omega] at this
    rw [← hse] at hkm
    obtain ⟨hw, hrun⟩ := hop a w inv.size know hkm
    have kn : ∀ w', Knows (Wf (ss (i + 1))) (Hf (ss (i + 1))) w' → ∃ m, m ≤ N ∧ Knows (Wf (ss m)) (Hf (ss m)) w' ∧ ∀ i', i' < N → es.contains i' = true → ((listed.setIfInBounds i true).getD i' false = true ↔ i' < m) := fun w' hk' =>
      ⟨i + 1, by omega, hk', fun i' h1 h2 => by
        by_cases e : i' = i
        · subst e
          simp [hlt]
        · rw [done_iff i' e, hm i' h1 h2]
          constructor
          · intro h; omega
          · intro h
            rcases Nat.lt_or_ge i' m with h3 | h3
            · exact h3
            · rw [before i' h3 (by omega)] at h2; cases h2⟩
    unfold wpOp
    simp only [ho, hw, if_true]
    refine .inl ?_
    unfold Oper.wp
    generalize (execOp a.eval o).run P w = r at *
    cases r with
    | ok x w' =>
      cases x <;> simp only [YieldsE] at hrun <;> simp only [Oper.upon]
      case value v => exact next _ _ hrun.1 hrun.2.1 (fun h => absurd h hnal) (kn _ hrun.2.2)
      case enter fn args =>
        refine hrun.2.mono fun e w'' ⟨v, he, hg, ht, hk'⟩ => ?_
        subst he
        exact next _ _ (hrun.1.trans hg) ht (fun h => absurd h hnal) (kn _ hk')
    | halt x w' => simp only [YieldsE] at hrun

theorem wpAny_mainM {N : Nat} {cs : List Cert} {ss : Nat → σ} {l : List Oper} {S' : Slots} {G' : Ghosts} (fam : Fam b w1 H0 Wf Hf) (hB : drawB l.toArray N = true) (hes : esB l.toArray es = true) (hen : es.all (Nat.blt · N) = true) (hlen : cs.length = N)
    (hcs : ∀ i o c, l.toArray[i]? = some o → cs[i]? = some c → CertOkM P n l.toArray b Wf Hf H0 es i (ss i) (ss (i + 1)) o c ∧ Stems S0 (cs.take i) c.S c.G)
    (hst : Stems S0 cs S' G') (hG : ∀ x ∈ G', ∃ c ∈ cs, x = (c.d, c.al, c.T)) (hK : Tail P n (Wf (ss N)) l.toArray Q (l.drop N) (fun _ => True) S' (Hf (ss N)) G') :
    ∀ (f : Nat) (listed : Array Bool) (a : Act) (w : World), HeadInv .any l.toArray N listed → undone listed N = f → InvM S0 Wf Hf es ss N n cs listed a w →
      wpAny P .any l.toArray Q (f + (l.toArray.size - N)) listed a w := by
  simp only [drawB, Bool.and_eq_true, decide_eq_true_eq] at hB
  obtain ⟨⟨⟨⟨⟨⟨hdep, hself⟩, hback⟩, hN⟩, hsink⟩, hchain⟩, hseq⟩ := hB
  intro f
  induction f with
  | zero =>
    intro listed a w hh hu inv
    rw [Nat.zero_add]
    have hall := undone_zero hu
    have hcan : listed = Array.replicate N true ++ Array.replicate (l.toArray.size - N) false := by
      apply Array.ext
      · simp [hh.size]; simp at hN; omega
      · intro i h1 h2
        rw [Array.getElem_append]
        split
        · rename_i hi
          simp at hi
          have := hall i hi
          simp [h1] at this
          simp [this]
        · rename_i hi
          simp at hi
          have := hh.tail i hi (by rw [← hh.size]; exact h1)
          simp [h1] at this
          simp [this]
    have hdone : ∀ i, i < N → listed.getD i false = true := fun i hi => by
      have h1 := hall i hi
      have : i < listed.size := by rw [hh.size]; omega
      simp [this] at h1 ⊢
      exact h1
    have hcN : ∀ i c, cs[i]? = some c → i < N := fun i c hc => by have := (List.getElem?_eq_some_iff.1 hc).1; omega
    have fits : Fits n S' a := ⟨inv.size, inv.defers, fun t v ht => by
      rcases hst.slots t v ht with ⟨c, hc, hd, hT⟩ | ⟨h0, hno⟩
      · obtain ⟨i, hi⟩ := List.mem_iff_getElem?.1 hc
        obtain ⟨u, hu, hTu⟩ := inv.done i c hi (hdone i (hcN i c hi))
        rw [hT] at hTu
        rw [← hd, hu]
        exact congrArg some hTu
      · exact inv.old t v h0 fun i c hi hd => absurd hd (hno c (List.mem_of_getElem? hi))⟩
    have hkn : Knows (Wf (ss N)) (Hf (ss N)) w := by
      obtain ⟨m, hmN, hkm, hm⟩ := inv.knows
      have hpure' : ∀ j, j < N → es.contains j = false → ss (j + 1) = ss j := fun j hj hno => by
        have hjo : j < l.toArray.size := by omega
        have hjl : j < cs.length := by omega
        rcases (hcs j _ cs[j] (Array.getElem?_eq_getElem hjo) (List.getElem?_eq_getElem hjl)).1.op with h | h
        · exact h.2.1
        · rw [hno] at h; cases h.1
      have := ss_same hpure' (N - m) m (by omega) fun j h1 h2 => by
        cases hej : es.contains j with
        | false => rfl
        | true =>
          have := (hm j (by omega) hej).1 (hdone j (by omega))
          omega
      rw [show m + (N - m) = N by omega] at this
      rw [this]
      exact hkm
    have := hK a w fits hkn (fun x hx => by
        obtain ⟨c, hc, rfl⟩ := hG x hx
        obtain ⟨i, hi⟩ := List.mem_iff_getElem?.1 hc
        exact inv.done i c hi (hdone i (hcN i c hi)))
      (fun x hx y hy hne hx1 hy1 => by
        obtain ⟨c, hc, rfl⟩ := hG x hx
        obtain ⟨c', hc', rfl⟩ := hG y hy
        obtain ⟨i, hi⟩ := List.mem_iff_getElem?.1 hc
        obtain ⟨j, hj⟩ := List.mem_iff_getElem?.1 hc'
        exact inv.apart i j c c' hi hj (fun e => by subst e; rw [hi] at hj; cases hj; exact hne rfl) hx1 hy1 (hdone i (hcN i c hi)) (hdone j (hcN j c' hj)))
      (fun x hx hx1 y hy he => by
        obtain ⟨c, hc, rfl⟩ := hG x hx
        obtain ⟨i, hi⟩ := List.mem_iff_getElem?.1 hc
        obtain ⟨u, hu, hTu⟩ := inv.done i c hi (hdone i (hcN i c hi))
        have hio : i < l.toArray.size := by have := hcN i c hi; omega
        obtain ⟨bb, hb, _, hno⟩ := ((hcs i _ c (Array.getElem?_eq_getElem hio) hi).1.al hx1).2 _ _ hTu
        rw [hu, hb] at he
        simp only [Option.some.injEq, Value.pointer.injEq, Addr.mk.injEq, and_true] at he
        have hmem : y.2.1 ∈ (Hf (ss N)).map (·.2.1) := List.mem_map.2 ⟨y, hy, rfl⟩
        rw [fam.adr] at hmem
        obtain ⟨z, hz, hze⟩ := List.mem_map.1 hmem
        exact hno z hz (by omega)) trivial
    have hl : (l.drop N).length = l.toArray.size - N := by simp
    rw [← hl]
    exact wpAny_of_seq (l.drop N) N listed a w (fun j => by simp [List.getElem?_drop]) (by rw [hl, hcan]; exact hseq) this
  | succ f ih =>
    intro listed a w hh hu inv
    rw [show f + 1 + (l.toArray.size - N) = (f + (l.toArray.size - N)) + 1 by omega]
    obtain ⟨i0, hi0, hun0, hbefore⟩ := undone_first (listed := listed) (N := N) (by omega)
    have hready : i0 ∈ Region.ready .any l.toArray listed := by
      have hlt : i0 < l.toArray.size := by omega
      refine mem_ready.2 ⟨hun0, l.toArray[i0], Array.getElem?_eq_getElem hlt, fun e he hb => ?_⟩
      have h1 := List.all_eq_true.1 hback i0 (List.mem_range.2 hlt)
      simp only [Array.getElem?_eq_getElem hlt] at h1
      have h2 := Array.all_eq_true_iff_forall_mem.1 h1 e he
      simp only [hb, Bool.not_true, Bool.false_or, decide_eq_true_eq] at h2
      have h3 := hbefore e.on h2
      have : e.on < listed.size := by rw [hh.size]; omega
      simp [this] at h3 ⊢
      exact h3
    refine ⟨fun h0 => (by rw [h0] at hready; cases hready), fun i hi => ?_⟩
    have hiN : i < N := by
      rcases Nat.lt_or_ge i N with h | h
      · exact h
      · exact absurd hi (tail_waits hsink hchain hN hh _ i0 rfl hi0 hun0 i h)
    have hun := (mem_ready.1 hi).1
    refine wpOp_mono (fun a' w' h => ?_) (step_invM hlen hdep hself hes hh.closed hcs inv hi hiN hh.size (by omega))
    have := undone_set hun hiN
    exact ih _ a' w' (hh.set hi hiN) (by omega) h

theorem doC_drawnM {S : Slots} {l : List Oper} {id : Nat} (N : Nat) (es : List Nat) {s : σ} (fam : Fam b w1 H0 Wf Hf) (hm : P.follows .mixedOrders = true) (hB : (drawB l.toArray N && esB l.toArray es && es.all (Nat.blt · N)) = true)
    (h : DoM P n l.toArray b Wf Hf H0 es (fun s' S' G' => Tail P n (Wf s') l.toArray Q (l.drop N) (fun _ => True) S' (Hf s') G') (l.take N) 0 s S []) : DoC P n (Wf s) Q (.region id l.toArray true) S (Hf s) := by
  intro a w fa ka
  simp only [Bool.and_eq_true] at hB
  obtain ⟨⟨hB, hes⟩, hen⟩ := hB
  have hN : N < l.toArray.size := by
    simp only [drawB, Bool.and_eq_true, decide_eq_true_eq] at hB
    exact hB.1.1.1.2
  obtain ⟨cs, ss, hlen, h0, hcs, S', G', hst, hK, hG⟩ := doM_certs (S0 := S) (l.take N) 0 s S [] [] ⟨fun t v ht => .inr ⟨ht, fun c hc => by cases hc⟩, fun t T ht => by cases ht⟩ h
  have hlen' : cs.length = N := by rw [hlen]; simp; simp at hN; omega
  refine wp_region_any hm ?_
  have inv0 : HeadInv .any l.toArray N (Array.replicate l.toArray.size false) :=
    ⟨by simp, fun j oj _ hl => (by rw [getD_replicate_false] at hl; cases hl), fun t _ ht => getD_in (by simpa using ht) (getD_replicate_false _ _)⟩
  have hund : undone (Array.replicate l.toArray.size false) N = N := by
    have : ∀ k, k ≤ l.toArray.size → undone (Array.replicate l.toArray.size false) k = k := by
      intro k
      induction k with
      | zero => intro _; rfl
      | succ k ih =>
        intro hk
        have h1 := getD_in (listed := Array.replicate l.toArray.size false) (i := k) (by simp; simp at hk; omega) (getD_replicate_false _ _)
        simp only [undone, ih (by omega), h1]
        rfl
    exact this N (by omega)
  have hK' : Tail P n (Wf (ss N)) l.toArray Q (l.drop N) (fun _ => True) S' (Hf (ss N)) G' := by
    have e : 0 + (l.take N).length = N := by simp; simp at hN; omega
    rw [e] at hK
    exact hK
  have := wpAny_mainM (P := P) (n := n) (S0 := S) (Q := Q) (ss := ss) fam hB hes hen hlen' (fun i o c hi hc => by
      have hil := (List.getElem?_eq_some_iff.1 hc).1
      have := hcs i o c (by rw [List.getElem?_take, if_pos (by omega)]; simpa using hi) hc
      simpa using this) (by simpa using hst) (fun x hx => by
        rcases hG x hx with h | h
        · cases h
        · exact h) hK' N _ a { w with drawn := w.drawn + 1 } inv0 hund
      ⟨fa.size, fa.defers, fun t v ht _ => fa.has t v ht, fun i c _ hd => (by rw [getD_replicate_false] at hd; cases hd), fun i j c c' _ _ _ _ _ hd => (by rw [getD_replicate_false] at hd; cases hd),
        ⟨0, by omega, by rw [h0]; exact ka.next (Grow.refl w).drew, fun i _ _ => by rw [getD_replicate_false]; simp⟩⟩
  rwa [show N + (l.toArray.size - N) = l.toArray.size by omega] at this

/-! ### The rules -/
variable {S : Slots} {G : Ghosts} {K : σ → Slots → Ghosts → Prop} {o : Oper} {l : List Oper} {d i : Nat} {s : σ}

theorem doM_nil (h : K s S G) : DoM P n ops b Wf Hf H0 es K [] i s S G := h
theorem doM_v {v : Value} (ho : ∀ s', OpV P (Wf s') S (Hf s') o v) (hw : wantedS ops S o = some true) (hd : o.dst = some d) (hn : Nat.blt d n = true) (he : es.contains i = false) (next : DoM P n ops b Wf Hf H0 es K l (i + 1) s ((d, v) :: S) G) :
    DoM P n ops b Wf Hf H0 es K (o :: l) i s S G :=
  ⟨d, isV v, s, hd, by simpa using hn, (ho s).nosel, stableB_isV b v, .inl ⟨he, rfl, fun s' => opA_of_opT (ho s') hw⟩, .inl ⟨v, rfl, next⟩⟩
theorem doM_vg {α : Type} {F : α → Value} {x : α} (ho : ∀ s', OpV P (Wf s') S (Hf s') o (F x)) (hw : wantedS ops S o = some true) (hd : o.dst = some d) (hn : Nat.blt d n = true) (he : es.contains i = false)
    (next : ∀ r, r = x → DoM P n ops b Wf Hf H0 es K l (i + 1) s ((d, F r) :: S) G) : DoM P n ops b Wf Hf H0 es K (o :: l) i s S G := doM_v ho hw hd hn he (next x rfl)
theorem doM_skip (hw : wantedS ops S o = some false) (hs : noSel o = true) (hd : o.dst = some d) (hn : Nat.blt d n = true) (he : es.contains i = false) (next : DoM P n ops b Wf Hf H0 es K l (i + 1) s ((d, undef) :: S) G) :
    DoM P n ops b Wf Hf H0 es K (o :: l) i s S G :=
  ⟨d, isV undef, s, hd, by simpa using hn, hs, stableB_isV b _, .inl ⟨he, rfl, fun s' a w _ hk _ => by
    rw [wanted_know hw fun t ht => (hk t ht).1, if_neg (by simp)]; rfl⟩, .inl ⟨undef, rfl, next⟩⟩

theorem stableB_allocT {cs : List Value} {ty : TypeId} (fam : Fam b w1 H0 Wf Hf) : StableB b (AllocT w1 H0 cs ty) := fun _ w w' ⟨bb, h1, h2, h3, h4⟩ g => ⟨bb, h1, h2, h3, by
  rw [g.block bb (heap_lt h4) fun e => ?_]
  · exact h4
  · rcases fam.here bb e with h | h
    · omega
    · obtain ⟨x, hx, he⟩ := List.mem_map.1 h
      exact h3.1 x hx he⟩

theorem doM_alloc {t : TypeId} {ty : TypeId} {pos : String} {af : Array Edge} {g : Option (Nat × Bool)} {z : Value} {cs : List Value} (fam : Fam b w1 H0 Wf Hf) (hz : zeroIs P t z) (hc : copyV z.cells.toList = some cs)
    (hw : wantedS ops S ⟨some d, .alloc t, ty, pos, af, g⟩ = some true) (hn : Nat.blt d n = true) (hno : look S d = none) (he : es.contains i = false)
    (next : DoM P n ops b Wf Hf H0 es K l (i + 1) s S ((d, true, AllocT w1 H0 cs t) :: G)) : DoM P n ops b Wf Hf H0 es K (⟨some d, .alloc t, ty, pos, af, g⟩ :: l) i s S G := by
  have hc' := copyV_spec hc
  have hk : knownB S ⟨some d, .alloc t, ty, pos, af, g⟩ = true := by simp [knownB, Op.operands]
  have key : ∀ a w, (∀ t' ∈ Oper.looksAt ops ⟨some d, .alloc t, ty, pos, af, g⟩, KnowAt S G a w t') → Region.wanted ⟨some d, .alloc t, ty, pos, af, g⟩ (yielded ops a.tmps) = true ∧
      (execOp a.eval ⟨some d, .alloc t, ty, pos, af, g⟩).run P w = .ok (.value (.pointer (some ⟨w.heap.size, 0, none⟩))) (w.alloc (.cells cs.toArray t)) := fun a w hkn => by
    have h1 : ∀ t' ∈ Oper.looksAt ops ⟨some d, .alloc t, ty, pos, af, g⟩, ∀ v, look S t' = some v → a.tmps[t']? = some v := fun t' ht => (hkn t' ht).1
    refine ⟨wanted_know hw h1, ?_⟩
    rw [exec_know hk rfl h1, hc']
    simp [execOp, Instr.alloc, run_zero hz, newVar, newRow]
  refine ⟨d, AllocT w1 H0 cs t, s, rfl, by simpa using hn, rfl, stableB_allocT fam, .inl ⟨he, rfl, fun s' a w _ hkn k => ?_⟩, .inr (.inr ⟨hno, he, fun s' a w _ hkn _ => ⟨(key a w hkn).1, _, (key a w hkn).2⟩, ?_, next⟩)⟩
  · rw [(key a w hkn).1, if_pos rfl, (key a w hkn).2]
    refine ⟨(Grow.refl w).alloc _, w.heap.size, rfl, by rw [← fam.size s']; exact k.grow.size, ⟨fun x hx e => ?_, fun x hx hd => ?_⟩, ?_⟩
    · have hmem : x.2.1 ∈ H0.map (·.2.1) := List.mem_map.2 ⟨x, hx, rfl⟩
      rw [← fam.adr s'] at hmem
      obtain ⟨y, hy, hye⟩ := List.mem_map.1 hmem
      have := heap_lt (k.has y hy).2
      omega
    · rw [← fam.told s'] at hx
      have := ((k.facts x hx).at' _ hd).2.1
      omega
    · show (w.heap.push _)[w.heap.size]? = _
      simp
  · rintro u w ⟨bb, h1, h2, h3, h4⟩
    exact ⟨bb, h1, heap_lt h4, h3.1⟩

/-- a call that changes the block -/
theorem doM_callE {α : Type} {F : α → Value} {x : α} {s2 : σ} {f : FuncId} {xs : List Operand} {ats : Array TypeId} {ty : TypeId} {pos : String} {af : Array Edge} {g : Option (Nat × Bool)} {vs : List Value} (he : Enters P f) (ha : evs S xs = some vs)
    (hc : ∀ w, Knows (Wf s) (Hf s) w → Calls P f vs.toArray w (fun e w' => e = .returned (F x) ∧ GrowB b w w' ∧ Knows (Wf s2) (Hf s2) w')) (hw : wantedS ops S ⟨some d, .call ⟨.value (.func f), xs.toArray, ats⟩, ty, pos, af, g⟩ = some true)
    (hn : Nat.blt d n = true) (hi : es.contains i = true) (next : ∀ r, r = x → DoM P n ops b Wf Hf H0 es K l (i + 1) s2 ((d, F r) :: S) G) :
    DoM P n ops b Wf Hf H0 es K (⟨some d, .call ⟨.value (.func f), xs.toArray, ats⟩, ty, pos, af, g⟩ :: l) i s S G := by
  refine ⟨d, isV (F x), s2, rfl, by simpa using hn, rfl, stableB_isV b _, .inr ⟨hi, fun a w _ hkn k => ?_⟩, .inl ⟨F x, rfl, next x rfl⟩⟩
  obtain ⟨e, hk⟩ := evs_spec ha
  have hknown : knownB S ⟨some d, .call ⟨.value (.func f), xs.toArray, ats⟩, ty, pos, af, g⟩ = true := by
    simp only [knownB, Op.operands, Call.operands]
    rw [Array.all_eq_true_iff_forall_mem]
    intro y hy
    simp at hy
    rcases hy with rfl | hy
    · rfl
    · exact hk y hy
  have h1 : ∀ t' ∈ Oper.looksAt ops ⟨some d, .call ⟨.value (.func f), xs.toArray, ats⟩, ty, pos, af, g⟩, ∀ v, look S t' = some v → a.tmps[t']? = some v := fun t' ht => (hkn t' ht).1
  refine ⟨wanted_know hw h1, ?_⟩
  rw [exec_know hknown rfl h1]
  have hrun : (execOp (evD S) ⟨some d, .call ⟨.value (.func f), xs.toArray, ats⟩, ty, pos, af, g⟩).run P w = .ok (.enter f vs.toArray) w := by
    have h2 : evD S (.func f) = .func (.func f) #[] #[] := rfl
    have h3 := he vs.toArray w
    simp [execOp, resolve, h2, Deferred.ofValue, invoke, e, h3]
  rw [hrun]
  exact ⟨GrowB.refl _ _, (hc w k).mono fun e w' ⟨h1, h2, h3⟩ => ⟨F x, h1, h2, rfl, h3⟩⟩

theorem tail_allocM {w0 : Base} {H : Heap} {tl : List Oper} {F : World → Prop} {cs : List Value} {ty : TypeId} (hsz : w1.w.heap.size = w0.w.heap.size) (hR : w1.R = w0.R) (id : Nat) (hG : G.all (fun x => !Nat.beq x.1 d) = true)
    (h : ∀ b, Tail P n w0 ops Q tl F ((d, .pointer (some ⟨b, 0, none⟩)) :: S) ((id, b, cs, ty) :: H) G) : Tail P n w0 ops Q tl F S H ((d, true, AllocT w1 H0 cs ty) :: G) := by
  have e : AllocT w1 H0 cs ty = AllocT w0 H0 cs ty := by unfold AllocT; rw [hsz, hR]
  rw [e]
  exact tail_alloc id hG h

end
end Go.Sx

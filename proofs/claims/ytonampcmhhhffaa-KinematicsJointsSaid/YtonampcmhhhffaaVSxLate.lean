/- A region that draws its order, with one late component of a tuple: it may come behind the first operation of the tail. For any program. No condition. -/
import Derived.Test.YtonampcmhhhffaaVDat
namespace Go.Sx
open Go.RowKit
section
variable {P : Program} {n : Nat} {w0 : Base} {ops : Array Oper} {Q : Exit → Act → World → Prop} {H : Heap}
variable {S0 : Slots}
theorem step_next {N : Nat} {cs : List Cert} {listed : Array Bool} {a : Act} {w : World} (hlen : cs.length = N) (hdep : depB ops N = true) (hself : selfB ops N = true)
    (hcs : ∀ i o c, ops[i]? = some o → cs[i]? = some c → CertOk P n w0 ops H o c ∧ Stems S0 (cs.take i) c.S c.G)
    (inv : Inv S0 w0 n H cs listed a w) {i : Nat} (hi : i ∈ Region.ready .any ops listed) (hin : i < N) (hsz : listed.size = ops.size) (hops : N ≤ ops.size) :
    ∃ o c, ops[i]? = some o ∧ cs[i]? = some c ∧ CertOk P n w0 ops H o c ∧ (∀ t ∈ o.looksAt ops, KnowAt c.S c.G a w t) ∧
      (∀ (u : Value) (w' : World), Grow w w' → c.T u w' → (c.al = true → u = .pointer (some ⟨w.heap.size, 0, none⟩)) → Inv S0 w0 n H cs (listed.setIfInBounds i true) (a.put o.dst u) w') := by
  obtain ⟨hun, o, ho, hall⟩ := mem_ready.1 hi
  have hil : i < cs.length := by omega
  obtain ⟨c, hc⟩ : ∃ c, cs[i]? = some c := ⟨cs[i], List.getElem?_eq_getElem hil⟩
  obtain ⟨ok, st⟩ := hcs i o c ho hc
  have ops_at : ∀ j c', cs[j]? = some c' → j < N ∧ ∃ oj, ops[j]? = some oj ∧ oj.dst = some c'.d := fun j c' hj => by
    have hjl := (List.getElem?_eq_some_iff.1 hj).1
    have hjo : j < ops.size := by omega
    exact ⟨by omega, ops[j], Array.getElem?_eq_getElem hjo, (hcs j ops[j] c' (Array.getElem?_eq_getElem hjo) hj).1.dst⟩
  have waits : ∀ j c', cs[j]? = some c' → j ≠ i → c'.d ∈ o.looksAt ops → j < i ∧ listed.getD j false = true := fun j c' hj hne hm => by
    obtain ⟨hjN, oj, hoj, hdj⟩ := ops_at j c' hj
    obtain ⟨h1, h2⟩ := (depB_spec hdep hjN hin hne hoj ho).2 c'.d hdj hm
    refine ⟨h1, ?_⟩
    obtain ⟨o', ho', e, he, hb, hon⟩ := Region.waitsFor_spec h2
    rw [ho] at ho'
    cases ho'
    have := hall e he hb
    rwa [hon] at this
  have know : ∀ t ∈ o.looksAt ops, KnowAt c.S c.G a w t := fun t ht => by
    have hself' : c.d ≠ t := fun e => selfB_spec hself hin ho ok.dst (e ▸ ht)
    refine ⟨fun v hv => ?_, fun T hT => ?_⟩
    · rcases st.slots t v hv with ⟨c', hm, hd, hTc⟩ | ⟨h0, hno⟩
      · obtain ⟨j, hj⟩ := List.mem_iff_getElem?.1 hm
        rw [List.getElem?_take] at hj
        split at hj
        · rename_i hji
          obtain ⟨_, hdone⟩ := waits j c' hj (by omega) (hd ▸ ht)
          obtain ⟨u, hu, hTu⟩ := inv.done j c' hj hdone
          rw [hTc] at hTu
          rw [← hd, hu]
          exact congrArg some hTu
        · cases hj
      · refine inv.old t v h0 fun j c' hj hd => ?_
        by_cases e : j = i
        · subst e
          rw [hc] at hj
          cases hj
          exact absurd hd hself'
        · obtain ⟨hlt, _⟩ := waits j c' hj e (hd ▸ ht)
          exact absurd hd (hno c' (List.mem_of_getElem? (by rw [List.getElem?_take, if_pos hlt]; exact hj)))
    · obtain ⟨c', hm, hd, hTc⟩ := st.ghosts t T hT
      obtain ⟨j, hj⟩ := List.mem_iff_getElem?.1 hm
      rw [List.getElem?_take] at hj
      split at hj
      · rename_i hji
        obtain ⟨_, hdone⟩ := waits j c' hj (by omega) (hd ▸ ht)
        obtain ⟨u, hu, hTu⟩ := inv.done j c' hj hdone
        exact ⟨u, by rw [← hd]; exact hu, hTc ▸ hTu⟩
      · cases hj
  have hlt : i < listed.size := by omega
  have put_ne : ∀ (u : Value) (t : Nat), c.d ≠ t → (a.put (some c.d) u).tmps[t]? = a.tmps[t]? := fun u t hne => by simp [Act.put, Array.getElem?_setIfInBounds_ne hne]
  have put_eq : ∀ (u : Value), (a.put (some c.d) u).tmps[c.d]? = some u := fun u => by
    have := ok.lt
    have hs := inv.size
    simp [Act.put, hs, this]
  have done_iff : ∀ j, j ≠ i → (listed.setIfInBounds i true).getD j false = listed.getD j false := fun j hj => getD_set_ne false (Ne.symm hj)
  have dne : ∀ j c', cs[j]? = some c' → j ≠ i → c'.d ≠ c.d := fun j c' hj hne e => by
    obtain ⟨hjN, oj, hoj, hdj⟩ := ops_at j c' hj
    exact (depB_spec hdep hjN hin hne hoj ho).1 (by rw [hdj, ok.dst, e])
  have next : ∀ (u : Value) (w' : World), Grow w w' → c.T u w' → (c.al = true → u = .pointer (some ⟨w.heap.size, 0, none⟩)) →
      Inv S0 w0 n H cs (listed.setIfInBounds i true) (a.put o.dst u) w' := fun u w' gr hT hal => by
    rw [ok.dst]
    refine ⟨by simp [Act.put, inv.size], inv.defers, fun t v hv hno => ?_, fun j c' hj hd => ?_, fun j k c' c'' hj hk hne h1 h2 hd1 hd2 => ?_, inv.knows.next gr⟩
    · have hne : c.d ≠ t := fun e => by
        have := hno i c hc e
        simp [hlt] at this
      rw [put_ne u t hne]
      refine inv.old t v hv fun j c' hj hd => ?_
      by_cases e : j = i
      · subst e; rw [hc] at hj; cases hj; exact absurd hd hne
      · rw [← done_iff j e]; exact hno j c' hj hd
    · by_cases e : j = i
      · subst e; rw [hc] at hj; cases hj
        exact ⟨u, put_eq u, hT⟩
      · rw [done_iff j e] at hd
        obtain ⟨u', hu, hTu⟩ := inv.done j c' hj hd
        obtain ⟨_, oj, hoj, _⟩ := ops_at j c' hj
        exact ⟨u', by rw [put_ne u _ (Ne.symm (dne j c' hj e))]; exact hu, (hcs j oj c' hoj hj).1.stable _ _ _ hTu gr⟩
    · have fresh : ∀ j c', cs[j]? = some c' → j ≠ i → c'.al = true → listed.getD j false = true → a.tmps[c'.d]? ≠ some (.pointer (some ⟨w.heap.size, 0, none⟩)) := fun j c' hj e ha hd he => by
        obtain ⟨u', hu, hTu⟩ := inv.done j c' hj hd
        obtain ⟨_, oj, hoj, _⟩ := ops_at j c' hj
        obtain ⟨b, hb, hbl, _⟩ := ((hcs j oj c' hoj hj).1.al ha).2 _ _ hTu
        rw [hu, hb] at he
        simp only [Option.some.injEq, Value.pointer.injEq, Addr.mk.injEq, and_true] at he
        omega
      by_cases e1 : j = i
      · subst e1; rw [hc] at hj; cases hj
        have e2 : k ≠ j := Ne.symm hne
        rw [put_eq, put_ne u _ (Ne.symm (dne k c'' hk e2)), hal h1]
        rw [done_iff k e2] at hd2
        exact Ne.symm (fresh k c'' hk e2 h2 hd2)
      · by_cases e2 : k = i
        · subst e2; rw [hc] at hk; cases hk
          rw [put_eq, put_ne u _ (Ne.symm (dne j c' hj e1)), hal h2]
          rw [done_iff j e1] at hd1
          exact fresh j c' hj e1 h1 hd1
        · rw [put_ne u _ (Ne.symm (dne j c' hj e1)), put_ne u _ (Ne.symm (dne k c'' hk e2))]
          rw [done_iff j e1] at hd1
          rw [done_iff k e2] at hd2
          exact inv.apart j k c' c'' hj hk hne h1 h2 hd1 hd2
  exact ⟨o, c, ho, hc, ok, know, next⟩

def exB (ops : Array Oper) (L : Nat) : Bool := match ops[L]? with
  | some o => (match o.op, o.guard with | .extract _ _, none => true | _, _ => false)
  | none => false
theorem exB_spec {L : Nat} {o : Oper} (h : exB ops L = true) (ho : ops[L]? = some o) : (∃ x k, o.op = .extract x k) ∧ o.guard = none := by
  simp only [exB, ho] at h
  cases h1 : o.op <;> cases h2 : o.guard <;> simp [h1, h2] at h ⊢
def freeB (ops : Array Oper) (L : Nat) : Bool := match ops[L]? with
  | none => false
  | some oi => (List.range ops.size).all fun j => j == L || oi.after.any (fun e => Region.binds .any e && e.on == j) || match ops[j]? with
      | some oj => oj.after.any (fun e => Region.binds .any e && e.on == L) || oi.apart ops oj
      | none => true
theorem freeB_spec {i : Nat} {oi : Oper} {listed : Array Bool} (hi : ops[i]? = some oi) (h : freeB ops i = true) (hr : i ∈ Region.ready .any ops listed) (j : Nat) (oj : Oper)
    (hj : ops[j]? = some oj) (hne : j ≠ i) (hun : listed.getD j true = false) (hno : ∀ e ∈ oj.after, Region.binds .any e = true → e.on ≠ i) :
    oi.apart ops oj = true := by
  simp only [freeB, hi, List.all_eq_true, List.mem_range] at h
  have h1 := h j (Array.getElem?_eq_some_iff.1 hj).1
  simp only [hj, Bool.or_eq_true, beq_iff_eq, hne, false_or] at h1
  rcases h1 with h1 | h1 | h1
  · obtain ⟨e, he, hb⟩ := Array.any_eq_true'.1 h1
    simp only [Bool.and_eq_true, beq_iff_eq] at hb
    obtain ⟨_, o', ho', hall⟩ := mem_ready.1 hr
    have : o' = oi := Option.some.inj (ho'.symm.trans hi)
    subst this
    have h2 := hall e he hb.1
    rw [hb.2, getD_both hun] at h2
    cases h2
  · obtain ⟨e, he, hb⟩ := Array.any_eq_true'.1 h1
    simp only [Bool.and_eq_true, beq_iff_eq] at hb
    exact absurd hb.2 (hno e he hb.1)
  · exact h1
def directB (ops : Array Oper) (N L : Nat) : Bool := (List.range N).all fun i => i == L || Region.waitsFor .any ops N i
def lateB (ops : Array Oper) (N L : Nat) : Bool :=
  depB ops N && selfB ops N && backB ops && decide (N < ops.size) && directB ops N L && Region.chainB .any ops N && decide (L < N) && exB ops L && Region.noSelect ops && freeB ops L &&
    Region.seqB .any ops (ops.size - N) N (Array.replicate N true ++ Array.replicate (ops.size - N) false)

theorem wpAny_late {N L : Nat} {cs : List Cert} {l : List Oper} {S' : Slots} {G' : Ghosts} (hQ : ∀ c a d v w, Q (.panic c) (a.put d v) w → Q (.panic c) a w) (hB : lateB l.toArray N L = true) (hlen : cs.length = N)
    (hcs : ∀ i o c, l.toArray[i]? = some o → cs[i]? = some c → CertOk P n w0 l.toArray H o c ∧ Stems S0 (cs.take i) c.S c.G)
    (hst : Stems S0 cs S' G') (hG : ∀ x ∈ G', ∃ c ∈ cs, x = (c.d, c.al, c.T)) (hK : Tail P n w0 l.toArray Q (l.drop N) (fun _ => True) S' H G') :
    ∀ (f : Nat) (listed : Array Bool) (a : Act) (w : World), HeadInv .any l.toArray N listed → undone listed N = f → Inv S0 w0 n H cs listed a w →
      wpAny P .any l.toArray Q (f + (l.toArray.size - N)) listed a w := by
  simp only [lateB, Bool.and_eq_true, decide_eq_true_eq] at hB
  obtain ⟨⟨⟨⟨⟨⟨⟨⟨⟨⟨hdep, hself⟩, hback⟩, hN⟩, hdir⟩, hchain⟩, hLN⟩, hex⟩, hsel⟩, hfree⟩, hseq⟩ := hB
  intro f
  induction f with
  | zero =>
    intro listed a w hh hu inv
    rw [Nat.zero_add]
    have hall := undone_zero hu
    have hcan : listed = Array.replicate N true ++ Array.replicate (l.toArray.size - N) false := by
      apply Array.ext
      · simp [hh.size]; simp at hN; omega
      · intro i h1 h2
        rw [Array.getElem_append]
        split
        · rename_i hi
          simp at hi
          have := hall i hi
          simp [h1] at this
          simp [this]
        · rename_i hi
          simp at hi
          have := hh.tail i hi (by rw [← hh.size]; exact h1)
          simp [h1] at this
          simp [this]
    have hdone : ∀ i, i < N → listed.getD i false = true := fun i hi => by
      have h1 := hall i hi
      have : i < listed.size := by rw [hh.size]; omega
      simp [this] at h1 ⊢
      exact h1
    have hcN : ∀ i c, cs[i]? = some c → i < N := fun i c hc => by have := (List.getElem?_eq_some_iff.1 hc).1; omega
    have fits : Fits n S' a := ⟨inv.size, inv.defers, fun t v ht => by
      rcases hst.slots t v ht with ⟨c, hc, hd, hT⟩ | ⟨h0, hno⟩
      · obtain ⟨i, hi⟩ := List.mem_iff_getElem?.1 hc
        obtain ⟨u, hu, hTu⟩ := inv.done i c hi (hdone i (hcN i c hi))
        rw [hT] at hTu
        rw [← hd, hu]
        exact congrArg some hTu
      · exact inv.old t v h0 fun i c hi hd => absurd hd (hno c (List.mem_of_getElem? hi))⟩
    have := hK a w fits inv.knows (fun x hx => by
        obtain ⟨c, hc, rfl⟩ := hG x hx
        obtain ⟨i, hi⟩ := List.mem_iff_getElem?.1 hc
        exact inv.done i c hi (hdone i (hcN i c hi)))
      (fun x hx y hy hne hx1 hy1 => by
        obtain ⟨c, hc, rfl⟩ := hG x hx
        obtain ⟨c', hc', rfl⟩ := hG y hy
        obtain ⟨i, hi⟩ := List.mem_iff_getElem?.1 hc
        obtain ⟨j, hj⟩ := List.mem_iff_getElem?.1 hc'
        exact inv.apart i j c c' hi hj (fun e => by subst e; rw [hi] at hj; cases hj; exact hne rfl) hx1 hy1 (hdone i (hcN i c hi)) (hdone j (hcN j c' hj)))
      (fun x hx hx1 y hy he => by
        obtain ⟨c, hc, rfl⟩ := hG x hx
        obtain ⟨i, hi⟩ := List.mem_iff_getElem?.1 hc
        obtain ⟨u, hu, hTu⟩ := inv.done i c hi (hdone i (hcN i c hi))
        have hio : i < l.toArray.size := by have := hcN i c hi; omega
        obtain ⟨b, hb, _, hno⟩ := ((hcs i _ c (Array.getElem?_eq_getElem hio) hi).1.al hx1).2 _ _ hTu
        rw [hu, hb] at he
        simp only [Option.some.injEq, Value.pointer.injEq, Addr.mk.injEq, and_true] at he
        exact hno y hy he.symm) trivial
    have hl : (l.drop N).length = l.toArray.size - N := by simp
    rw [← hl]
    exact wpAny_of_seq (l.drop N) N listed a w (fun j => by simp [List.getElem?_drop]) (by rw [hl, hcan]; exact hseq) this
  | succ f ih =>
    intro listed a w hh hu inv
    rw [show f + 1 + (l.toArray.size - N) = (f + (l.toArray.size - N)) + 1 by omega]
    by_cases hL : L ∈ Region.ready .any l.toArray listed
    · obtain ⟨o, c, ho, hc, ok, know, next⟩ := step_next hlen hdep hself hcs inv hL hLN hh.size (by omega)
      obtain ⟨⟨x, k, hop⟩, hgd⟩ := exB_spec hex ho
      have hun := (mem_ready.1 hL).1
      have hw : Region.wanted o (yielded l.toArray a.tmps) = true := by simp [Region.wanted, hgd]
      have hrun := ok.op a w inv.size know inv.knows
      rw [if_pos hw] at hrun
      have hv : ∃ v, (∀ w : World, (execOp a.eval o).run P w = .ok (.value v) w) ∧ c.T v w := by
        cases hv : a.eval x
        case tuple vs =>
          cases hk : vs[k]? with
          | none => simp [execOp, hop, hv, Instr.extract, hk, stuck, Yields] at hrun
          | some v =>
            have e : ∀ w : World, (execOp a.eval o).run P w = .ok (.value v) w := fun w => by simp [execOp, hop, hv, Instr.extract, hk]
            rw [e w] at hrun
            exact ⟨v, e, hrun.2⟩
        all_goals (exfalso; simp [execOp, hop, hv, Instr.extract, stuck, Yields] at hrun)
      obtain ⟨v, e, hT⟩ := hv
      have hnext := next v w (Grow.refl _) hT fun hal => by
        obtain ⟨_, ob, hr⟩ := (ok.al hal).1 a w inv.size know inv.knows
        rw [e w] at hr
        simp only [Result.ok.injEq, Next.value.injEq] at hr
        exact hr.1
      have := undone_set hun hLN
      refine wpAny_first ho (Region.noSelect_spec hsel) (fun c a w => hQ c a _ _ w) _ listed a w (freeB_spec ho hfree hL) hL (.inl ⟨hw, e⟩) (ih _ _ _ (hh.set hL hLN) (by omega) hnext)
    · obtain ⟨i0, hi0, hun0, hbefore⟩ := undone_first (listed := listed) (N := N) (by omega)
      have hready : i0 ∈ Region.ready .any l.toArray listed := by
        have hlt : i0 < l.toArray.size := by omega
        refine mem_ready.2 ⟨hun0, l.toArray[i0], Array.getElem?_eq_getElem hlt, fun e he hb => ?_⟩
        have h1 := List.all_eq_true.1 hback i0 (List.mem_range.2 hlt)
        simp only [Array.getElem?_eq_getElem hlt] at h1
        have h2 := Array.all_eq_true_iff_forall_mem.1 h1 e he
        simp only [hb, Bool.not_true, Bool.false_or, decide_eq_true_eq] at h2
        have h3 := hbefore e.on h2
        have : e.on < listed.size := by rw [hh.size]; omega
        simp [this] at h3 ⊢
        exact h3
      have hi0L : i0 ≠ L := fun h => hL (h ▸ hready)
      refine ⟨fun h0 => (by rw [h0] at hready; cases hready), fun i hi => ?_⟩
      have hiN : i < N := by
        rcases Nat.lt_or_ge i N with h | h
        · exact h
        · exfalso
          obtain ⟨_, ot, hot, hall⟩ := mem_ready.1 hi
          have htlt : i < l.toArray.size := (Array.getElem?_eq_some_iff.1 hot).1
          by_cases hiN : i = N
          · subst hiN
            have h1 := List.all_eq_true.1 hdir i0 (List.mem_range.2 hi0)
            simp only [Bool.or_eq_true, beq_iff_eq, hi0L, false_or] at h1
            obtain ⟨o', ho', e, he, hb, hon⟩ := Region.waitsFor_spec h1
            have : o' = ot := Option.some.inj (ho'.symm.trans hot)
            subst this
            have h2 := hall e he hb
            rw [hon, getD_both hun0] at h2
            cases h2
          · have h1 := List.all_eq_true.1 hchain i (List.mem_range.2 htlt)
            simp only [Bool.or_eq_true, decide_eq_true_eq] at h1
            rcases h1 with h1 | h1
            · omega
            · obtain ⟨o', ho', e, he, hb, hon⟩ := Region.waitsFor_spec h1
              have : o' = ot := Option.some.inj (ho'.symm.trans hot)
              subst this
              have h2 := hall e he hb
              rw [hon, getD_both (hh.tail (i - 1) (by omega) (by omega))] at h2
              cases h2
      have hun := (mem_ready.1 hi).1
      refine wpOp_mono (fun a' w' h => ?_) (step_inv hlen hdep hself hcs inv hi hiN hh.size (by omega))
      have := undone_set hun hiN
      exact ih _ a' w' (hh.set hi hiN) (by omega) h

theorem doC_late {S : Slots} {l : List Oper} {id : Nat} (N L : Nat) (hQ : ∀ c a d v w, Q (.panic c) (a.put d v) w → Q (.panic c) a w) (hm : P.follows .mixedOrders = true) (hB : lateB l.toArray N L = true)
    (h : DoG P n w0 l.toArray H (fun S' G' => Tail P n w0 l.toArray Q (l.drop N) (fun _ => True) S' H G') (l.take N) S []) : DoC P n w0 Q (.region id l.toArray true) S H := by
  intro a w fa ka
  have hN : N < l.toArray.size := by
    simp only [lateB, Bool.and_eq_true, decide_eq_true_eq] at hB
    exact hB.1.1.1.1.1.1.1.2
  obtain ⟨cs, hlen, hcs, S', G', hst, hK, hG⟩ := doG_certs (S0 := S) (l.take N) S [] [] ⟨fun t v ht => .inr ⟨ht, fun c hc => by cases hc⟩, fun t T ht => by cases ht⟩ h
  have hlen' : cs.length = N := by rw [hlen]; simp; simp at hN; omega
  refine wp_region_any hm ?_
  have inv0 : HeadInv .any l.toArray N (Array.replicate l.toArray.size false) :=
    ⟨by simp, fun j oj _ hl => (by rw [getD_replicate_false] at hl; cases hl), fun t _ ht => getD_in (by simpa using ht) (getD_replicate_false _ _)⟩
  have hund : undone (Array.replicate l.toArray.size false) N = N := by
    have : ∀ k, k ≤ l.toArray.size → undone (Array.replicate l.toArray.size false) k = k := by
      intro k
      induction k with
      | zero => intro _; rfl
      | succ k ih =>
        intro hk
        have h1 := getD_in (listed := Array.replicate l.toArray.size false) (i := k) (by simp; simp at hk; omega) (getD_replicate_false _ _)
        simp only [undone, ih (by omega), h1]
        rfl
    exact this N (by omega)
  have := wpAny_late (P := P) (n := n) (w0 := w0) (H := H) (S0 := S) (Q := Q) hQ hB hlen' (fun i o c hi hc => by
      have hil := (List.getElem?_eq_some_iff.1 hc).1
      have := hcs i o c (by rw [List.getElem?_take, if_pos (by omega)]; simpa using hi) hc
      simpa using this) (by simpa using hst) (fun x hx => by
        rcases hG x hx with h | h
        · cases h
        · exact h) hK N _ a { w with drawn := w.drawn + 1 } inv0 hund
      ⟨fa.size, fa.defers, fun t v ht _ => fa.has t v ht, fun i c _ hd => (by rw [getD_replicate_false] at hd; cases hd), fun i j c c' _ _ _ _ _ hd => (by rw [getD_replicate_false] at hd; cases hd), ka.next (Grow.refl w).drew⟩
  rwa [show N + (l.toArray.size - N) = l.toArray.size by omega] at this


theorem putP_body {fn : Func} {R : Ending → World → Prop} : ∀ c a d v w, bodyPost P fn R (.panic c) (a.put d v) w → bodyPost P fn R (.panic c) a w := fun c a d v w h => by
  cases d <;> exact h
theorem putP_then {K : Act → World → Prop} (h : ∀ c a d v w, Q (.panic c) (a.put d v) w → Q (.panic c) a w) : ∀ c a d v w, Exit.then K Q (.panic c) (a.put d v) w → Exit.then K Q (.panic c) a w := h
theorem putP_block {id : Nat} (h : ∀ c a d v w, Q (.panic c) (a.put d v) w → Q (.panic c) a w) : ∀ c a d v w, Exit.inBlock id Q (.panic c) (a.put d v) w → Exit.inBlock id Q (.panic c) a w := h
end
end Go.Sx

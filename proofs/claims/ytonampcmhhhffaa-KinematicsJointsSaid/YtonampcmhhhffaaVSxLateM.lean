/- A region that draws its order, with operations that change one block and with one load that may come behind the first store of the tail. For any program. No condition. -/
import Derived.Test.YtonampcmhhhffaaVSxClo
namespace Go.Sx
open Go.RowKit

def dropS (d : Nat) : Slots → Option Slots
  | [] => some []
  | (k, v) :: S => bif Nat.beq k d then dropS d S else consO (k, v) (dropS d S)
theorem dropS_spec {d : Nat} {S S' : Slots} (h : dropS d S = some S') : ∀ t v, look S' t = some v → look S t = some v ∧ t ≠ d := by
  induction S generalizing S' with
  | nil => simp [dropS] at h; subst h; intro t v ht; cases ht
  | cons x S ih =>
    obtain ⟨k, u⟩ := x
    intro t v ht
    simp only [dropS] at h
    cases hb : Nat.beq k d with
    | true =>
      rw [hb] at h
      obtain ⟨h1, h2⟩ := ih h t v ht
      have e := Nat.eq_of_beq_eq_true hb
      exact ⟨by rw [look_cons_ne _ _ (by omega)]; exact h1, h2⟩
    | false =>
      rw [hb] at h
      obtain ⟨S2, h2, rfl⟩ := consO_some h
      by_cases e : k = t
      · subst e
        rw [look_cons_same] at ht ⊢
        exact ⟨ht, fun e => by subst e; rw [Nat.beq_refl] at hb; cases hb⟩
      · rw [look_cons_ne _ _ e] at ht ⊢
        exact ih h2 t v ht

theorem undone_all {listed : Array Bool} : ∀ {N : Nat}, (∀ i, i < N → listed.getD i true = true) → undone listed N = 0
  | 0, _ => rfl
  | k + 1, h => by
    simp only [undone, undone_all fun i hi => h i (Nat.lt_succ_of_lt hi), h k (Nat.lt_succ_self k)]
    rfl

section
variable {P : Program} {n : Nat} {ops : Array Oper} {Q : Exit → Act → World → Prop} {σ : Type}
variable {b : Nat → Prop} {Wf : σ → Base} {Hf : σ → Heap} {H0 : Heap} {es : List Nat} {w1 : Base} {S0 : Slots}

theorem wpList_wpOp {i : Nat} {o : Oper} {l : List Oper} {a : Act} {w : World} (ho : ops[i]? = some o) (h : wpList P ops Q (o :: l) a w) : wpOp P ops Q i (fun a' w' => wpList P ops Q l a' w') a w := by
  unfold wpOp
  simp only [ho]
  exact h

def lateMB (ops : Array Oper) (N L : Nat) (es : List Nat) : Bool :=
  depB ops N && selfB ops N && backB ops && decide (N + 1 < ops.size) && directB ops N L && Region.chainB .any ops N && decide (L < N) && Region.waitsFor .any ops (N + 1) L && esB ops es &&
    Region.seqB .any ops (ops.size - N) N (Array.replicate N true ++ Array.replicate (ops.size - N) false) && Region.seqB .any ops (ops.size - (N + 1)) (N + 1) (Array.replicate (N + 1) true ++ Array.replicate (ops.size - (N + 1)) false)

/-- what is to be shown of the tail: the load first, or behind the first store -/
def LateTail (P : Program) (n : Nat) (w0 : Base) (Q : Exit → Act → World → Prop) (l : List Oper) (N L : Nat) (S : Slots) (H : Heap) (G : Ghosts) : Prop :=
  Tail P n w0 l.toArray Q (l.drop N) (fun _ => True) S H G ∧ ∃ oN oL d S2, l[N]? = some oN ∧ l[L]? = some oL ∧ oL.dst = some d ∧ dropS d S = some S2 ∧ G.all (fun x => !Nat.beq x.1 d) = true ∧
    Tail P n w0 l.toArray Q (oN :: oL :: l.drop (N + 1)) (fun _ => True) S2 H G

theorem can_of {listed : Array Bool} {N m : Nat} (hs : listed.size = m) (hN : N ≤ m) (h1 : ∀ i, i < N → listed.getD i true = true) (h2 : ∀ i, N ≤ i → i < m → listed.getD i true = false) :
    listed = Array.replicate N true ++ Array.replicate (m - N) false := by
  apply Array.ext
  · simp [hs]; omega
  · intro i g1 g2
    rw [Array.getElem_append]
    split
    · rename_i hi
      simp at hi
      have := h1 i hi
      simp [g1] at this
      simp [this]
    · rename_i hi
      simp at hi
      have := h2 i hi (by omega)
      simp [g1] at this
      simp [this]

theorem wpAny_lateM {N L : Nat} {cs : List Cert} {ss : Nat → σ} {l : List Oper} {S' : Slots} {G' : Ghosts} (fam : Fam b w1 H0 Wf Hf) (hB : lateMB l.toArray N L es = true) (hlen : cs.length = N) (hnl : es.contains L = false)
    (hcs : ∀ i o c, l.toArray[i]? = some o → cs[i]? = some c → CertOkM P n l.toArray b Wf Hf H0 es i (ss i) (ss (i + 1)) o c ∧ Stems S0 (cs.take i) c.S c.G)
    (hst : Stems S0 cs S' G') (hG : ∀ x ∈ G', ∃ c ∈ cs, x = (c.d, c.al, c.T)) (hK : LateTail P n (Wf (ss N)) Q l N L S' (Hf (ss N)) G') :
    ∀ (f : Nat) (listed : Array Bool) (a : Act) (w : World), HeadInv .any l.toArray N listed → undone listed N = f → InvM S0 Wf Hf es ss N n cs listed a w →
      wpAny P .any l.toArray Q (f + (l.toArray.size - N)) listed a w := by
  simp only [lateMB, Bool.and_eq_true, decide_eq_true_eq] at hB
  obtain ⟨⟨⟨⟨⟨⟨⟨⟨⟨⟨hdep, hself⟩, hback⟩, hN⟩, hdir⟩, hchain⟩, hLN⟩, hwL⟩, hes⟩, hseq⟩, hseq2⟩ := hB
  obtain ⟨hK1, oN, oL, dL, S2, hoN, hoL, hdL, hdrop, hGd, hK2⟩ := hK
  have hcN : ∀ i c, cs[i]? = some c → i < N := fun i c hc => by have := (List.getElem?_eq_some_iff.1 hc).1; omega
  have hpure' : ∀ j, j < N → es.contains j = false → ss (j + 1) = ss j := fun j hj hno => by
    have hjo : j < l.toArray.size := by omega
    have hjl : j < cs.length := by omega
    rcases (hcs j _ cs[j] (Array.getElem?_eq_getElem hjo) (List.getElem?_eq_getElem hjl)).1.op with h | h
    · exact h.2.1
    · rw [hno] at h; cases h.1
  -- the state when all effects are done
  have endK : ∀ {listed : Array Bool} {a : Act} {w : World}, InvM S0 Wf Hf es ss N n cs listed a w → (∀ i, i < N → i ≠ L → listed.getD i false = true) → Knows (Wf (ss N)) (Hf (ss N)) w := fun {listed a w} inv hdone => by
    obtain ⟨m, hmN, hkm, hm⟩ := inv.knows
    have := ss_same hpure' (N - m) m (by omega) fun j h1 h2 => by
      cases hej : es.contains j with
      | false => rfl
      | true =>
        have hjL : j ≠ L := fun e => by rw [e, hnl] at hej; cases hej
        have := (hm j (by omega) hej).1 (hdone j (by omega) hjL)
        omega
    rw [show m + (N - m) = N by omega] at this
    rw [this]
    exact hkm
  have tailOf : ∀ {listed : Array Bool} {a : Act} {w : World} {SS : Slots} {tl : List Oper}, InvM S0 Wf Hf es ss N n cs listed a w → (∀ i, i < N → i ≠ L → listed.getD i false = true) → Fits n SS a →
      (∀ x ∈ G', ∃ i c, cs[i]? = some c ∧ x = (c.d, c.al, c.T) ∧ listed.getD i false = true) → Tail P n (Wf (ss N)) l.toArray Q tl (fun _ => True) SS (Hf (ss N)) G' → wpList P l.toArray Q tl a w := fun {listed a w SS tl} inv hdone fits hGx hT => by
    refine hT a w fits (endK inv hdone) (fun x hx => ?_) (fun x hx y hy hne hx1 hy1 => ?_) (fun x hx hx1 y hy he => ?_) trivial
    · obtain ⟨i, c, hi, rfl, hd⟩ := hGx x hx
      exact inv.done i c hi hd
    · obtain ⟨i, c, hi, rfl, hd⟩ := hGx x hx
      obtain ⟨j, c', hj, rfl, hd'⟩ := hGx y hy
      exact inv.apart i j c c' hi hj (fun e => by subst e; rw [hi] at hj; cases hj; exact hne rfl) hx1 hy1 hd hd'
    · obtain ⟨i, c, hi, rfl, hd⟩ := hGx x hx
      obtain ⟨u, hu, hTu⟩ := inv.done i c hi hd
      have hio : i < l.toArray.size := by have := hcN i c hi; omega
      obtain ⟨bb, hb, _, hno⟩ := ((hcs i _ c (Array.getElem?_eq_getElem hio) hi).1.al hx1).2 _ _ hTu
      rw [hu, hb] at he
      simp only [Option.some.injEq, Value.pointer.injEq, Addr.mk.injEq, and_true] at he
      have hmem : y.2.1 ∈ (Hf (ss N)).map (·.2.1) := List.mem_map.2 ⟨y, hy, rfl⟩
      rw [fam.adr] at hmem
      obtain ⟨z, hz, hze⟩ := List.mem_map.1 hmem
      exact hno z hz (by omega)
  intro f
  induction f with
  | zero =>
    intro listed a w hh hu inv
    rw [Nat.zero_add]
    have hall := undone_zero hu
    have hcan := can_of hh.size (by omega) hall fun i h1 h2 => hh.tail i h1 h2
    have hdone : ∀ i, i < N → listed.getD i false = true := fun i hi => by
      have h1 := hall i hi
      have : i < listed.size := by rw [hh.size]; omega
      simp [this] at h1 ⊢
      exact h1
    have fits : Fits n S' a := ⟨inv.size, inv.defers, fun t v ht => by
      rcases hst.slots t v ht with ⟨c, hc, hd, hT⟩ | ⟨h0, hno⟩
      · obtain ⟨i, hi⟩ := List.mem_iff_getElem?.1 hc
        obtain ⟨u, hu, hTu⟩ := inv.done i c hi (hdone i (hcN i c hi))
        rw [hT] at hTu
        rw [← hd, hu]
        exact congrArg some hTu
      · exact inv.old t v h0 fun i c hi hd => absurd hd (hno c (List.mem_of_getElem? hi))⟩
    have := tailOf inv (fun i hi _ => hdone i hi) fits (fun x hx => by
      obtain ⟨c, hc, e⟩ := hG x hx
      obtain ⟨i, hi⟩ := List.mem_iff_getElem?.1 hc
      exact ⟨i, c, hi, e, hdone i (hcN i c hi)⟩) hK1
    have hl : (l.drop N).length = l.toArray.size - N := by simp
    rw [← hl]
    exact wpAny_of_seq (l.drop N) N listed a w (fun j => by simp [List.getElem?_drop]) (by rw [hl, hcan]; exact hseq) this
  | succ f ih =>
    intro listed a w hh hu inv
    rw [show f + 1 + (l.toArray.size - N) = (f + (l.toArray.size - N)) + 1 by omega]
    obtain ⟨i0, hi0, hun0, hbefore⟩ := undone_first (listed := listed) (N := N) (by omega)
    have hready : i0 ∈ Region.ready .any l.toArray listed := by
      have hlt : i0 < l.toArray.size := by omega
      refine mem_ready.2 ⟨hun0, l.toArray[i0], Array.getElem?_eq_getElem hlt, fun e he hb => ?_⟩
      have h1 := List.all_eq_true.1 hback i0 (List.mem_range.2 hlt)
      simp only [Array.getElem?_eq_getElem hlt] at h1
      have h2 := Array.all_eq_true_iff_forall_mem.1 h1 e he
      simp only [hb, Bool.not_true, Bool.false_or, decide_eq_true_eq] at h2
      have h3 := hbefore e.on h2
      have : e.on < listed.size := by rw [hh.size]; omega
      simp [this] at h3 ⊢
      exact h3
    refine ⟨fun h0 => (by rw [h0] at hready; cases hready), fun i hi => ?_⟩
    rcases Nat.lt_or_ge i N with hiN | hiN
    · have hun := (mem_ready.1 hi).1
      refine wpOp_mono (fun a' w' h => ?_) (step_invM hlen hdep hself hes hh.closed hcs inv hi hiN hh.size (by omega))
      have := undone_set hun hiN
      exact ih _ a' w' (hh.set hi hiN) (by omega) h
    · -- the first of the tail comes ahead of the load
      obtain ⟨_, ot, hot, hallt⟩ := mem_ready.1 hi
      have htlt : i < l.toArray.size := (Array.getElem?_eq_some_iff.1 hot).1
      have hiN' : i = N := by
        rcases Nat.lt_or_ge N i with h | h
        · exfalso
          have h1 := List.all_eq_true.1 hchain i (List.mem_range.2 htlt)
          simp only [Bool.or_eq_true, decide_eq_true_eq] at h1
          rcases h1 with h1 | h1
          · omega
          · obtain ⟨o', ho', e, he, hb, hon⟩ := Region.waitsFor_spec h1
            have : o' = ot := Option.some.inj (ho'.symm.trans hot)
            subst this
            have h2 := hallt e he hb
            rw [hon, getD_both (hh.tail (i - 1) (by omega) (by omega))] at h2
            cases h2
        · omega
      subst hiN'
      have hothers : ∀ j, j < i → j ≠ L → listed.getD j false = true := fun j hj hjL => by
        have h1 := List.all_eq_true.1 hdir j (List.mem_range.2 hj)
        simp only [Bool.or_eq_true, beq_iff_eq, hjL, false_or] at h1
        obtain ⟨o', ho', e, he, hb, hon⟩ := Region.waitsFor_spec h1
        have : o' = ot := Option.some.inj (ho'.symm.trans hot)
        subst this
        have h2 := hallt e he hb
        rwa [hon] at h2
      have hLun : listed.getD L true = false := by
        by_cases e : i0 = L
        · rw [← e]; exact hun0
        · have h1 := hothers i0 hi0 e
          have h2 := getD_both hun0
          rw [h2] at h1
          cases h1
      have hsetL : ∀ j, j < i → (listed.setIfInBounds L true).getD j true = true := fun j hj => by
        have hjs : j < listed.size := by rw [hh.size]; omega
        by_cases e : j = L
        · subst e; simp [hjs]
        · rw [getD_set_ne true (Ne.symm e)]
          have := hothers j hj e
          simp [hjs] at this ⊢
          exact this
      have hf : f = 0 := by
        have h1 := undone_set hLun hLN
        rw [undone_all hsetL] at h1
        omega
      subst hf
      rw [Nat.zero_add, show l.toArray.size - i = (l.toArray.size - (i + 1)) + 1 by omega]
      have fits : Fits n S2 a := ⟨inv.size, inv.defers, fun t v ht => by
        obtain ⟨ht', hne⟩ := dropS_spec hdrop t v ht
        have hcL : ∀ c, cs[L]? = some c → c.d = dL := fun c hc => by
          have := (hcs L oL c (by simpa using hoL) hc).1.dst
          rw [hdL] at this
          exact (Option.some.inj this).symm
        rcases hst.slots t v ht' with ⟨c, hc, hd, hT⟩ | ⟨h0, hno⟩
        · obtain ⟨j, hj⟩ := List.mem_iff_getElem?.1 hc
          have hjL : j ≠ L := fun e => by subst e; exact hne (by rw [← hd]; exact hcL c hj)
          obtain ⟨u, hu, hTu⟩ := inv.done j c hj (hothers j (hcN j c hj) hjL)
          rw [hT] at hTu
          rw [← hd, hu]
          exact congrArg some hTu
        · exact inv.old t v h0 fun j c hj hd => absurd hd (hno c (List.mem_of_getElem? hj))⟩
      have hwp := tailOf inv hothers fits (fun x hx => by
        obtain ⟨c, hc, e⟩ := hG x hx
        obtain ⟨j, hj⟩ := List.mem_iff_getElem?.1 hc
        refine ⟨j, c, hj, e, hothers j (hcN j c hj) fun ejL => ?_⟩
        subst ejL
        have h1 := (hcs j oL c (by simpa using hoL) hj).1.dst
        rw [hdL] at h1
        have h2 := List.all_eq_true.1 hGd x hx
        rw [e, ← Option.some.inj h1] at h2
        simp at h2) hK2
      have hoN' : l.toArray[i]? = some oN := by simpa using hoN
      refine wpOp_mono (fun a' w' h => ?_) (wpList_wpOp hoN' hwp)
      have hsz1 : (listed.setIfInBounds i true).size = l.toArray.size := by simp [hh.size]
      have hiL : i ≠ L := by omega
      have hL1 : (listed.setIfInBounds i true).getD L true = false := by rw [getD_set_ne true hiL]; exact hLun
      have hoL' : l.toArray[L]? = some oL := by simpa using hoL
      refine ⟨fun h0 => ?_, fun k hk => ?_⟩
      · have : L ∈ Region.ready .any l.toArray (listed.setIfInBounds i true) := by
          refine mem_ready.2 ⟨hL1, oL, hoL', fun e he hb => ?_⟩
          have h1 := List.all_eq_true.1 hback L (List.mem_range.2 (by omega))
          simp only [hoL'] at h1
          have h2 := Array.all_eq_true_iff_forall_mem.1 h1 e he
          simp only [hb, Bool.not_true, Bool.false_or, decide_eq_true_eq] at h2
          rw [getD_set_ne false (show i ≠ e.on by omega)]
          exact hothers e.on (by omega) (by omega)
        rw [h0] at this
        cases this
      · obtain ⟨hkun, ok, hok, hallk⟩ := mem_ready.1 hk
        have hklt : k < l.toArray.size := (Array.getElem?_eq_some_iff.1 hok).1
        have hki : k ≠ i := fun e => by
          subst e
          have : k < listed.size := by rw [hh.size]; omega
          simp [this] at hkun
        have hkL : k = L := by
          rcases Nat.lt_or_ge k i with h1 | h1
          · rcases Nat.decEq k L with e | e
            · exfalso
              have h2 := hothers k h1 e
              rw [getD_set_ne true (Ne.symm hki)] at hkun
              rw [getD_both hkun] at h2
              cases h2
            · exact e
          · exfalso
            rcases Nat.lt_or_ge (i + 1) k with h2 | h2
            · have h3 := List.all_eq_true.1 hchain k (List.mem_range.2 hklt)
              simp only [Bool.or_eq_true, decide_eq_true_eq] at h3
              rcases h3 with h3 | h3
              · omega
              · obtain ⟨o', ho', e, he, hb, hon⟩ := Region.waitsFor_spec h3
                have : o' = ok := Option.some.inj (ho'.symm.trans hok)
                subst this
                have h4 := hallk e he hb
                rw [hon, getD_set_ne false (show i ≠ k - 1 by omega), getD_both (hh.tail (k - 1) (by omega) (by omega))] at h4
                cases h4
            · have e1 : k = i + 1 := by omega
              subst e1
              obtain ⟨o', ho', e, he, hb, hon⟩ := Region.waitsFor_spec hwL
              have : o' = ok := Option.some.inj (ho'.symm.trans hok)
              subst this
              have h4 := hallk e he hb
              rw [hon, getD_both hL1] at h4
              cases h4
        subst hkL
        refine wpOp_mono (fun a2 w2 h2 => ?_) (wpList_wpOp hoL' h)
        have hl2 : (l.drop (i + 1)).length = l.toArray.size - (i + 1) := by simp
        have hcan := can_of (listed := (listed.setIfInBounds i true).setIfInBounds k true) (N := i + 1) (m := l.toArray.size) (by simp [hh.size]) (by omega) (fun j hj => by
            have hjs : j < listed.size := by rw [hh.size]; omega
            by_cases e : j = k
            · subst e; simp [hjs]
            · rw [getD_set_ne true (Ne.symm e)]
              by_cases e2 : j = i
              · subst e2; simp [hjs]
              · rw [getD_set_ne true (Ne.symm e2)]
                have := hothers j (by omega) e
                simp [hjs] at this ⊢
                exact this) (fun j h3 h4 => by
            rw [getD_set_ne true (show k ≠ j by omega), getD_set_ne true (show i ≠ j by omega)]
            exact hh.tail j (by omega) h4)
        rw [← hl2]
        exact wpAny_of_seq (l.drop (i + 1)) (i + 1) _ a2 w2 (fun j => by simp [List.getElem?_drop]) (by rw [hl2, hcan]; exact hseq2) h2

theorem doC_drawnL {S : Slots} {l : List Oper} {id : Nat} (N L : Nat) (es : List Nat) {s : σ} (fam : Fam b w1 H0 Wf Hf) (hm : P.follows .mixedOrders = true) (hB : lateMB l.toArray N L es = true) (hnl : es.contains L = false)
    (h : DoM P n l.toArray b Wf Hf H0 es (fun s' S' G' => LateTail P n (Wf s') Q l N L S' (Hf s') G') (l.take N) 0 s S []) : DoC P n (Wf s) Q (.region id l.toArray true) S (Hf s) := by
  intro a w fa ka
  have hN : N < l.toArray.size := by
    simp only [lateMB, Bool.and_eq_true, decide_eq_true_eq] at hB
    have := hB.1.1.1.1.1.1.1.2
    omega
  obtain ⟨cs, ss, hlen, h0, hcs, S', G', hst, hK, hG⟩ := doM_certs (S0 := S) (l.take N) 0 s S [] [] ⟨fun t v ht => .inr ⟨ht, fun c hc => by cases hc⟩, fun t T ht => by cases ht⟩ h
  have hlen' : cs.length = N := by rw [hlen]; simp; simp at hN; omega
  refine wp_region_any hm ?_
  have inv0 : HeadInv .any l.toArray N (Array.replicate l.toArray.size false) :=
    ⟨by simp, fun j oj _ hl => (by rw [getD_replicate_false] at hl; cases hl), fun t _ ht => getD_in (by simpa using ht) (getD_replicate_false _ _)⟩
  have hund : undone (Array.replicate l.toArray.size false) N = N := by
    have : ∀ k, k ≤ l.toArray.size → undone (Array.replicate l.toArray.size false) k = k := by
      intro k
      induction k with
      | zero => intro _; rfl
      | succ k ih =>
        intro hk
        have h1 := getD_in (listed := Array.replicate l.toArray.size false) (i := k) (by simp; simp at hk; omega) (getD_replicate_false _ _)
        simp only [undone, ih (by omega), h1]
        rfl
    exact this N (by omega)
  have hK' : LateTail P n (Wf (ss N)) Q l N L S' (Hf (ss N)) G' := by
    have e : 0 + (l.take N).length = N := by simp; simp at hN; omega
    rw [e] at hK
    exact hK
  have := wpAny_lateM (P := P) (n := n) (S0 := S) (Q := Q) (ss := ss) fam hB hlen' hnl (fun i o c hi hc => by
      have hil := (List.getElem?_eq_some_iff.1 hc).1
      have := hcs i o c (by rw [List.getElem?_take, if_pos (by omega)]; simpa using hi) hc
      simpa using this) (by simpa using hst) (fun x hx => by
        rcases hG x hx with h | h
        · cases h
        · exact h) hK' N _ a { w with drawn := w.drawn + 1 } inv0 hund
      ⟨fa.size, fa.defers, fun t v ht _ => fa.has t v ht, fun i c _ hd => (by rw [getD_replicate_false] at hd; cases hd), fun i j c c' _ _ _ _ _ hd => (by rw [getD_replicate_false] at hd; cases hd),
        ⟨0, by omega, by rw [h0]; exact ka.next (Grow.refl w).drew, fun i _ _ => by rw [getD_replicate_false]; simp⟩⟩
  rwa [show N + (l.toArray.size - N) = l.toArray.size by omega] at this

variable {S : Slots} {H : Heap} {w0 : Base} {sl : Value} {LL : List Int} {i : Nat}
theorem doC_srcLB {b : Nat} {l : List Oper} {rid : Nat} {t0 : TypeId} (id N L : Nat) (es : List Nat) (hH : lookH H id = some (b, srcC sl LL i, t0)) (hm : P.follows .mixedOrders = true) (hB : lateMB l.toArray N L es = true) (hnl : es.contains L = false)
    (h : DoM P n l.toArray (· = b) (fun _ => w0) (hfB H id sl LL) H es (fun s' S' G' => LateTail P n w0 Q l N L S' (hfB H id sl LL s') G') (l.take N) 0 i S []) :
    DoC P n w0 Q (.region rid l.toArray true) S H := by
  have := doC_drawnL (Wf := fun _ : Nat => w0) (Hf := hfB H id sl LL) (id := rid) N L es (famB hH) hm hB hnl h
  have e : hfB H id sl LL i = H := by simp [hfB, updH_self hH]
  rw [e] at this
  exact this
theorem late_heap {H H' : Heap} {G : Ghosts} {l : List Oper} {id k N L : Nat} (hu : updH H id (srcC sl LL k) = some H') (h : LateTail P n w0 Q l N L S H' G) : LateTail P n w0 Q l N L S (hfB H id sl LL k) G := by
  have e : hfB H id sl LL k = H' := by simp [hfB, hu]
  rw [e]
  exact h
theorem late_tail {l : List Oper} {G : Ghosts} {N L d : Nat} {oN oL : Oper} {S2 : Slots} (h1 : l[N]? = some oN) (h2 : l[L]? = some oL) (h3 : oL.dst = some d) (h4 : dropS d S = some S2) (h5 : G.all (fun x => !Nat.beq x.1 d) = true)
    (ht : Tail P n w0 l.toArray Q (l.drop N) (fun _ => True) S H G) (ht2 : Tail P n w0 l.toArray Q (oN :: oL :: l.drop (N + 1)) (fun _ => True) S2 H G) : LateTail P n w0 Q l N L S H G :=
  ⟨ht, oN, oL, d, S2, h1, h2, h3, h4, h5, ht2⟩
end
end Go.Sx

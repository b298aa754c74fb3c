/- What is told of a call's result; own slices and append; loops. For any program. No condition. -/
import Derived.Test.YtonampcmhhhffaaVSxLateM
import Derived.Laws.OwnMore
namespace Go.Sx
open Go.RowKit

abbrev Facts := List (Nat × (Nat → Prop) × (World → Prop))
def lookR : Facts → Nat → Option ((Nat → Prop) × (World → Prop))
  | [], _ => none
  | (k, x) :: R, i => bif Nat.beq k i then some x else lookR R i
theorem lookR_mem {R : Facts} {i : Nat} {x : (Nat → Prop) × (World → Prop)} (h : lookR R i = some x) : ∃ k, (k, x) ∈ R := by
  induction R with
  | nil => cases h
  | cons y R ih =>
    obtain ⟨k, y⟩ := y
    simp only [lookR] at h
    cases hb : Nat.beq k i with
    | true => rw [hb] at h; simp at h; subst h; exact ⟨k, List.mem_cons_self⟩
    | false => rw [hb] at h; simp at h; obtain ⟨k', hk⟩ := ih h; exact ⟨k', List.mem_cons_of_mem _ hk⟩
def updR : Facts → Nat → (Nat → Prop) → (World → Prop) → Option Facts
  | [], _, _, _ => none
  | (k, x) :: R, i, D, F => bif Nat.beq k i then some ((k, D, F) :: R) else consO (k, x) (updR R i D F)
theorem updR_spec {R R' : Facts} {i : Nat} {D : Nat → Prop} {F : World → Prop} (h : updR R i D F = some R') : ∃ R1 R2 k x, R = R1 ++ (k, x) :: R2 ∧ R' = R1 ++ (k, D, F) :: R2 ∧ lookR R i = some x := by
  induction R generalizing R' with
  | nil => cases h
  | cons y R ih =>
    obtain ⟨k, y⟩ := y
    simp only [updR] at h
    cases hb : Nat.beq k i with
    | true => rw [hb] at h; simp at h; subst h; exact ⟨[], R, k, y, rfl, rfl, by simp [lookR, hb]⟩
    | false =>
      rw [hb] at h
      obtain ⟨R2, h2, rfl⟩ := consO_some h
      obtain ⟨A, B, k', x, e1, e2, e3⟩ := ih h2
      exact ⟨(k, y) :: A, B, k', x, by rw [e1]; rfl, by rw [e2]; rfl, by simp [lookR, hb, e3]⟩

def Holds (w0 : Base) (F : World → Prop) : Prop := ∀ (H : Heap) (w : World), Knows w0 H w → F w
theorem holds_r {w0 : Base} {id : Nat} {D : Nat → Prop} {F : World → Prop} (h : lookR w0.R id = some (D, F)) : Holds w0 F := fun _ _ k => by
  obtain ⟨j, hj⟩ := lookR_mem h
  exact (k.facts _ hj).holds
theorem Knows.forget {w1 : World} {x : Nat × (Nat → Prop) × (World → Prop)} {R : Facts} {H : Heap} {w : World} (k : Knows ⟨w1, x :: R⟩ H w) : Knows ⟨w1, R⟩ H w :=
  ⟨k.grow, k.has, k.nodup, fun y hy => k.facts y (List.mem_cons_of_mem _ hy), (List.pairwise_cons.1 k.apart).2⟩
theorem Holds.more {w0 : Base} {F : World → Prop} (h : Holds w0 F) (x : Nat × (Nat → Prop) × (World → Prop)) : Holds ⟨w0.w, x :: w0.R⟩ F := fun H w k => h H w k.forget
theorem Holds.imp {w0 : Base} {F G : World → Prop} (h : Holds w0 F) (hi : ∀ w, F w → G w) : Holds w0 G := fun H w k => hi w (h H w k)

/-- What a contract says of a result that is told. -/
def RetsF {X : Type} (Φ : X → Prop) (V : X → Value) (F : X → World → Prop) (w : World) (e : Ending) (w' : World) : Prop := ∃ x, Φ x ∧ e = .returned (V x) ∧ Grow w w' ∧ Told w.heap.size (F x) w'

section
variable {P : Program} {n : Nat} {w0 : Base} {ops : Array Oper} {Q : Exit → Act → World → Prop} {S : Slots} {H : Heap}
variable {d : Nat} {ty : TypeId} {pos : String} {af : Array Edge} {g : Option (Nat × Bool)}
variable {f : FuncId} {xs : List Operand} {ats : Array TypeId} {vs : List Value} {rest : List Oper} {X : Type} {Φ : X → Prop} {V : X → Value} {F : X → World → Prop}

theorem doL_told (id : Nat) (he : Enters P f) (ha : evs S xs = some vs) (hc : ∀ w', Knows w0 H w' → Calls P f vs.toArray w' (RetsF Φ V F w'))
    (hw : wantedS ops S ⟨some d, .call ⟨.value (.func f), xs.toArray, ats⟩, ty, pos, af, g⟩ = some true) (hn : Nat.blt d n = true)
    (next : ∀ x D, Φ x → DoL P n ⟨w0.w, (id, D, F x) :: w0.R⟩ ops Q rest ((d, V x) :: S) H) : DoL P n w0 ops Q (⟨some d, .call ⟨.value (.func f), xs.toArray, ats⟩, ty, pos, af, g⟩ :: rest) S H := by
  intro a w' fi k
  unfold wpList
  rw [wanted_fits fi hw, if_pos rfl]
  refine .inl ?_
  unfold Oper.wp
  rw [exec_fits fi (known_evs ha) rfl, call_run he ha]
  simp only [Oper.upon]
  refine (hc w' k).mono fun e w'' ⟨x, hx, he, hg, D, h1, h2, h3⟩ => ?_
  subst he
  exact next x D hx _ _ (fi.put hn _) (k.tell hg id h1 h2 h3)

variable {B : Base} {b i0 i j : Nat} {sl : Value} {L : List Int}
theorem doL_toldA (id : Nat) (hs : Src B.w b sl L i0) (he : Enters P f) (ha : evs S xs = some vs) (hc : ∀ w', Src w' b sl L i → Calls P f vs.toArray w' (RetsF Φ V F (srcW w' b sl L j)))
    (hw : wantedS ops S ⟨some d, .call ⟨.value (.func f), xs.toArray, ats⟩, ty, pos, af, g⟩ = some true) (hn : Nat.blt d n = true)
    (next : ∀ x D, Φ x → DoL P n (srcB ⟨B.w, (id, D, F x) :: B.R⟩ b sl L j) ops Q rest ((d, V x) :: S) H) : DoL P n (srcB B b sl L i) ops Q (⟨some d, .call ⟨.value (.func f), xs.toArray, ats⟩, ty, pos, af, g⟩ :: rest) S H := by
  intro a w' fi k
  unfold wpList
  rw [wanted_fits fi hw, if_pos rfl]
  refine .inl ?_
  unfold Oper.wp
  rw [exec_fits fi (known_evs ha) rfl, call_run he ha]
  simp only [Oper.upon]
  refine (hc w' ((hs.w i).grow k.grow)).mono fun e w'' ⟨x, hx, he, hg, D, h1, h2, h3⟩ => ?_
  subst he
  obtain ⟨t0, hb⟩ := hs.blk
  exact next x D hx _ _ (fi.put hn _) ((knows_setRow hb k).tell hg id h1 h2 h3)

theorem doL_toldB {H' : Heap} {t0 : TypeId} (id sid : Nat) (hI : IntsAt w0.w w0.w.heap.size sl L) (hH : lookH H sid = some (b, srcC sl L i, t0)) (he : Enters P f) (ha : evs S xs = some vs)
    (hc : ∀ w', Src w' b sl L i → Calls P f vs.toArray w' (RetsF Φ V F (srcW w' b sl L j))) (hu : updH H sid (srcC sl L j) = some H')
    (hw : wantedS ops S ⟨some d, .call ⟨.value (.func f), xs.toArray, ats⟩, ty, pos, af, g⟩ = some true) (hn : Nat.blt d n = true)
    (next : ∀ x D, Φ x → DoL P n ⟨w0.w, (id, D, F x) :: w0.R⟩ ops Q rest ((d, V x) :: S) H') : DoL P n w0 ops Q (⟨some d, .call ⟨.value (.func f), xs.toArray, ats⟩, ty, pos, af, g⟩ :: rest) S H := by
  intro a w' fi k
  unfold wpList
  rw [wanted_fits fi hw, if_pos rfl]
  refine .inl ?_
  unfold Oper.wp
  rw [exec_fits fi (known_evs ha) rfl, call_run he ha]
  simp only [Oper.upon]
  obtain ⟨h1, h2⟩ := k.at hH
  refine (hc w' ⟨⟨t0, h2⟩, intsAt_grow hI k.grow h1⟩).mono fun e w'' ⟨x, hx, he, hg, D, q1, q2, q3⟩ => ?_
  subst he
  exact next x D hx _ _ (fi.put hn _) ((k.set hH hu).tell hg id q1 q2 q3)

/-! ### own slices -/
def ownD (a : Option Addr) : Nat → Prop := fun k => ∃ ad, a = some ad ∧ ad.block = k
def OwnF (m : Nat) (e : TypeId) (size : Nat) (a : Option Addr) (cap k : Nat) (ys : List Value) : World → Prop := fun w => w.ownsRow m e size (.slice a k cap) k ys
theorem own_dep (m : Nat) (e : TypeId) (size : Nat) (a : Option Addr) (cap k : Nat) (ys : List Value) : Depends (ownD a) (OwnF m e size a cap k ys) := fun w w' h hF => by
  obtain ⟨h1, h2⟩ := hF
  refine ⟨h1, ?_⟩
  rcases h2 with h2 | ⟨gg, cp, cur, hv, h3, h4, h5⟩
  · exact .inl h2
  · refine .inr ⟨gg, cp, cur, hv, h3, ?_, h5⟩
    simp only [Value.slice.injEq] at hv
    rw [h gg ⟨_, hv.1, rfl⟩]
    exact h4

theorem doC_own {c : Code} (id : Nat) (e : TypeId) (size : Nat) (h : DoC P n ⟨w0.w, (id, ownD none, OwnF 0 e size none 0 0 []) :: w0.R⟩ Q c S H) : DoC P n w0 Q c S H := fun a w f k =>
  h a w f ⟨k.grow, k.has, k.nodup, fun x hx => by
    rcases List.mem_cons.1 hx with rfl | hx
    · exact ⟨own_dep _ _ _ _ _ _ _, fun j ⟨_, hj, _⟩ => (by cases hj), World.ownsRow_nil _ _ _ _⟩
    · exact k.facts x hx, List.Pairwise.cons (fun y _ j ⟨_, hj, _⟩ => by cases hj) k.apart⟩
theorem doC_ownA {c : Code} (id : Nat) (e : TypeId) (size : Nat) (h : DoC P n (srcB ⟨B.w, (id, ownD none, OwnF 0 e size none 0 0 []) :: B.R⟩ b sl L i) Q c S H) : DoC P n (srcB B b sl L i) Q c S H := by
  exact doC_own id e size h

def appB (P : Program) (t e size bytes : Nat) : Bool :=
  match P.underlying t, P.info? e with
  | some (.slice e'), some i => e' == e && i.size == size && i.bytes == bytes && Nat.blt 0 size && (match i.zero with | some z => z.cells.size == size | none => false)
  | _, _ => false

theorem run_append1 {w : World} {t e size bytes base : Nat} {ty : TypeId} (hB : appB P t e size bytes = true) {v : Value} {k : Nat} {ys : List Value} (hown : w.ownsRow base e size v k ys)
    {ad : Addr} {m c : Nat} {news : List Value} (hm : 0 < m) (hl : news.length = m * size) (hnews : ∀ j u, news[j]? = some u → w.cell? (ad.add j) = some u) (h1 : ∀ u ∈ news, u.oneCell' = true)
    (h63 : k + m ≤ 9223372036854775807) (hby : (k + m) * bytes ≤ 140737488355328) (hbase : base ≤ w.heap.size) :
    ∃ gg cap w', (Builtin.append_ #[t, t] ty #[v, .slice (some ad) m c]).run P w = .ok (.slice (some ⟨gg, 0, none⟩) (k + m) cap) w' ∧ w'.ownsRow base e size (.slice (some ⟨gg, 0, none⟩) (k + m) cap) (k + m) (ys ++ news) ∧ w.grownBy w' v.ownBlock ∧
      (v.ownBlock = some gg ∨ w.heap.size ≤ gg) := by
  unfold appB at hB
  cases hu : P.underlying t with
  | none => simp [hu] at hB
  | some ds =>
    cases ds <;> simp [hu] at hB
    rename_i e'
    cases hi : P.info? e with
    | none => simp [hi] at hB
    | some i =>
      simp [hi] at hB
      obtain ⟨⟨⟨⟨rfl, h2⟩, h3⟩, h4⟩, h5⟩ := hB
      cases hz : i.zero with
      | none => simp [hz] at h5
      | some z =>
        simp [hz] at h5
        have hmax : maxLen = 9223372036854775807 := rfl
        obtain ⟨v', w', hr, ho, hg, hiff⟩ := run_append_own (P := P) w base t ty e' i z size bytes hu hi hz h2 h3 h5 h4 v k ys hown ad m c news hl hnews h1 (by omega) hby hbase
        rcases ho.2 with ⟨rfl, h0⟩ | ⟨gg, cap, cur, rfl, hbg, hgg, _⟩
        · omega
        · refine ⟨gg, cap, w', hr, ho, hg, ?_⟩
          rcases Nat.lt_or_ge gg w.heap.size with hlt | hge
          · left
            -- the block lay there before: it is the slice's own
            subst h2
            rcases hown.2 with ⟨rfl, hk0⟩ | ⟨g0, cap0, cur0, rfl, hb0, hg0, hkc, hcm, hcs, htake⟩
            · exfalso
              have hr2 := run_append_nil (P := P) w t ty e' i z hu hi hz ad m c news hl hnews hm (by omega) (by have := hby; subst hk0; subst h3; rw [Nat.zero_add] at this; omega)
              rw [hr] at hr2
              simp only [Result.ok.injEq, Value.slice.injEq, Option.some.injEq, Addr.mk.injEq] at hr2
              omega
            · by_cases hroom : k + m ≤ cap0
              · have hfit : k * i.size + news.length ≤ cur0.size := by rw [hl, hcs, ← Nat.add_mul]; exact Nat.mul_le_mul_right _ hroom
                have hr2 := run_append_room (P := P) w t ty e' i hu hi g0 k cap0 cur0 hg0 ad m c news hl hnews h1 hroom hfit
                rw [hr] at hr2
                simp only [Result.ok.injEq, Value.slice.injEq, Option.some.injEq, Addr.mk.injEq] at hr2
                simp [Value.ownBlock, hr2.1.1.1]
              · exfalso
                have holds : ∀ j u, ys[j]? = some u → w.cell? ((⟨g0, 0, none⟩ : Addr).add j) = some u := hown.cells (g := g0) rfl
                subst h3
                have hr2 := run_append_grow (P := P) w t ty e' i z hu hi hz ⟨g0, 0, none⟩ k cap0 ys hown.1 holds ad m c news hl hnews (by omega) (by omega) (growslice_fits (by omega) hby)
                rw [hr] at hr2
                simp only [Result.ok.injEq, Value.slice.injEq, Option.some.injEq, Addr.mk.injEq] at hr2
                omega
          · exact .inr hge

/-- what is known behind an append -/
theorem Knows.append {w w' : World} {R' : Facts} {id e size cap cap' k m gg : Nat} {a : Option Addr} {ys news : List Value} (hk : Knows w0 H w) (hR : lookR w0.R id = some (ownD a, OwnF 0 e size a cap k ys))
    (ho : w'.ownsRow 0 e size (.slice (some ⟨gg, 0, none⟩) (k + m) cap') (k + m) (ys ++ news)) (hg : w.grownBy w' (Value.slice a k cap).ownBlock)
    (hgg : (Value.slice a k cap).ownBlock = some gg ∨ w.heap.size ≤ gg) (hu : updR w0.R id (ownD (some ⟨gg, 0, none⟩)) (OwnF 0 e size (some ⟨gg, 0, none⟩) cap' (k + m) (ys ++ news)) = some R') : Knows ⟨w0.w, R'⟩ H w' := by
  obtain ⟨R1, R2, kk, x, e1, e2, e3⟩ := updR_spec hu
  rw [hR] at e3
  cases e3
  have hmem : (kk, ownD a, OwnF 0 e size a cap k ys) ∈ w0.R := by rw [e1]; simp
  have hfa := hk.facts _ hmem
  have blk : ∀ q, (Value.slice a k cap).ownBlock = some q → ownD a q := fun q hq => by
    cases a with
    | none => simp [Value.ownBlock] at hq
    | some ad => simp [Value.ownBlock] at hq; exact ⟨ad, rfl, hq⟩
  have hlow : ∀ q, q < w.heap.size → ¬ ownD a q → w'.heap[q]? = w.heap[q]? := fun q hq hn => hg.block q hq fun e => hn (blk q e.symm)
  have hgt : gg < w'.heap.size := by
    rcases ho.2 with ⟨h, _⟩ | ⟨g', c', cur, h, _, h4, _⟩
    · simp at h
    · simp only [Value.slice.injEq, Option.some.injEq, Addr.mk.injEq, and_true] at h
      rw [h.1]
      exact heap_lt h4
  have hgm : w0.w.heap.size ≤ gg := by
    rcases hgg with h | h
    · exact (hfa.at' gg (blk gg h)).1
    · exact Nat.le_trans hk.grow.size h
  have hap := hk.apart
  rw [e1] at hap
  have hap1 := List.pairwise_append.1 hap
  have hap2 := List.pairwise_cons.1 hap1.2.1
  -- the new block is none of another fact's
  have others : ∀ y ∈ R1 ++ R2, ¬ y.2.1 gg := fun y hy hd => by
    have hy0 : y ∈ w0.R := by
      rw [e1]
      rcases List.mem_append.1 hy with h | h
      · exact List.mem_append_left _ h
      · exact List.mem_append_right _ (List.mem_cons_of_mem _ h)
    rcases hgg with h | h
    · rcases List.mem_append.1 hy with h' | h'
      · exact hap1.2.2 y h' _ List.mem_cons_self gg hd (blk gg h)
      · exact hap2.1 y h' gg (blk gg h) hd
    · have := ((hk.facts y hy0).at' gg hd).2.1
      omega
  have keepF : ∀ y ∈ R1 ++ R2, RFact w0.w.heap.size H y.2.1 y.2.2 w' := fun y hy => by
    have hy0 : y ∈ w0.R := by
      rw [e1]
      rcases List.mem_append.1 hy with h | h
      · exact List.mem_append_left _ h
      · exact List.mem_append_right _ (List.mem_cons_of_mem _ h)
    obtain ⟨q1, q2, q3⟩ := hk.facts y hy0
    refine ⟨q1, fun q hq => ⟨(q2 q hq).1, Nat.lt_of_lt_of_le (q2 q hq).2.1 hg.size, (q2 q hq).2.2⟩, q1 w w' (fun q hq => hlow q (q2 q hq).2.1 fun ho' => ?_) q3⟩
    rcases List.mem_append.1 hy with h' | h'
    · exact hap1.2.2 y h' _ List.mem_cons_self q hq ho'
    · exact hap2.1 y h' q ho' hq
  refine ⟨⟨hg.os.trans hk.grow.os, hg.tape.trans hk.grow.tape, hg.output.trans hk.grow.output, Nat.le_trans hk.grow.size hg.size, fun q hq => ?_⟩, fun y hy => ⟨(hk.has y hy).1, ?_⟩, hk.nodup, fun y hy => ?_, ?_⟩
  · have hq' : q < w0.w.heap.size := hq
    rw [hlow q (Nat.lt_of_lt_of_le hq' hk.grow.size) fun hd => by have := (hfa.at' q hd).1; omega]
    exact hk.grow.block q hq'
  · rw [hlow _ (heap_lt (hk.has y hy).2) fun hd => (hfa.at' _ hd).2.2 y hy rfl]
    exact (hk.has y hy).2
  · rw [show (⟨w0.w, R'⟩ : Base).R = R' from rfl, e2] at hy
    rcases List.mem_append.1 hy with h | h
    · exact keepF y (List.mem_append_left _ h)
    · rcases List.mem_cons.1 h with rfl | h
      · refine ⟨own_dep _ _ _ _ _ _ _, fun q ⟨ad, had, hq⟩ => ?_, ho⟩
        simp only [Option.some.injEq] at had
        subst had
        simp only at hq
        subst hq
        refine ⟨hgm, hgt, fun y hy e => ?_⟩
        rcases hgg with h | h
        · exact (hfa.at' gg (blk gg h)).2.2 y hy e
        · have := hk.lt y hy
          omega
      · exact keepF y (List.mem_append_right _ h)
  · show R'.Pairwise _
    rw [e2]
    refine List.pairwise_append.2 ⟨hap1.1, List.pairwise_cons.2 ⟨fun y hy q ⟨ad, had, hq⟩ hd => ?_, hap2.2⟩, fun y hy z hz q hyq hzq => ?_⟩
    · simp only [Option.some.injEq] at had
      subst had
      simp only at hq
      subst hq
      exact others y (List.mem_append_right _ hy) hd
    · rcases List.mem_cons.1 hz with rfl | hz
      · obtain ⟨ad, had, hq⟩ := hzq
        simp only [Option.some.injEq] at had
        subst had
        simp only at hq
        subst hq
        exact others y (List.mem_append_left _ hy) hyq
      · exact hap1.2.2 y hy z (List.mem_cons_of_mem _ hz) q hyq hzq

theorem append_step {t e size bytes id cap k m b2 c2 : Nat} {e2 : TypeId} {a : Option Addr} {ys news : List Value} {x y : Operand} {act : Act} {w : World} (hB : appB P t e size bytes = true) (hR : lookR w0.R id = some (ownD a, OwnF 0 e size a cap k ys))
    (hx : ev S x = some (.slice a k cap)) (hy : ev S y = some (.slice (some ⟨b2, 0, none⟩) m c2)) (hblk : w.heap[b2]? = some (.cells news.toArray e2)) (hm : Nat.blt 0 m = true) (hl : Nat.beq news.length (m * size) = true) (h1 : news.all Value.oneCell' = true)
    (h63 : k + m ≤ 9223372036854775807) (hby : (k + m) * bytes ≤ 140737488355328) (fi : Fits n S act) (hk : Knows w0 H w)
    (hw : wantedS ops S ⟨some d, .call ⟨.builtin .append, #[x, y], #[t, t]⟩, ty, pos, af, g⟩ = some true) (hn : Nat.blt d n = true)
    (next : ∀ a' cap' R' act' w', updR w0.R id (ownD a') (OwnF 0 e size a' cap' (k + m) (ys ++ news)) = some R' → Fits n ((d, .slice a' (k + m) cap') :: S) act' → Knows ⟨w0.w, R'⟩ H w' → wpList P ops Q rest act' w') :
    wpList P ops Q (⟨some d, .call ⟨.builtin .append, #[x, y], #[t, t]⟩, ty, pos, af, g⟩ :: rest) act w := by
  obtain ⟨kk, hmem⟩ := lookR_mem hR
  have hown : w.ownsRow 0 e size (.slice a k cap) k ys := (hk.facts _ hmem).holds
  have hl' := Nat.eq_of_beq_eq_true hl
  have hm' : 0 < m := by simpa using hm
  obtain ⟨gg, cap', w', hr, ho, hg, hgg⟩ := run_append1 (P := P) (ty := ty) hB hown (ad := ⟨b2, 0, none⟩) (c := c2) hm' hl' (fun j u hu => by
      rw [add_addr, cell_at hblk, Nat.zero_add]; exact hu) (fun u hu => List.all_eq_true.1 h1 u hu) h63 hby (Nat.zero_le _)
  obtain ⟨R', hR'⟩ : ∃ R', updR w0.R id (ownD (some ⟨gg, 0, none⟩)) (OwnF 0 e size (some ⟨gg, 0, none⟩) cap' (k + m) (ys ++ news)) = some R' := by
    have : ∀ R : Facts, lookR R id = some (ownD a, OwnF 0 e size a cap k ys) → ∃ R', updR R id (ownD (some ⟨gg, 0, none⟩)) (OwnF 0 e size (some ⟨gg, 0, none⟩) cap' (k + m) (ys ++ news)) = some R' := by
      intro R
      induction R with
      | nil => intro h; cases h
      | cons z R ih =>
        obtain ⟨q, z⟩ := z
        intro h
        simp only [lookR] at h
        simp only [updR]
        cases hb : Nat.beq q id with
        | true => exact ⟨_, rfl⟩
        | false =>
          rw [hb] at h
          obtain ⟨R2, h2⟩ := ih h
          exact ⟨_, by simp only [h2, consO]; rfl⟩
    exact this _ hR
  unfold wpList
  rw [wanted_fits fi hw, if_pos rfl]
  refine .inl ?_
  unfold Oper.wp
  have hrun : (execOp act.eval ⟨some d, .call ⟨.builtin .append, #[x, y], #[t, t]⟩, ty, pos, af, g⟩).run P w = .ok (.value (.slice (some ⟨gg, 0, none⟩) (k + m) cap')) w' := by
    simp [execOp, resolve, invoke, builtin, fi.ev hx, fi.ev hy, hr]
  rw [hrun]
  exact next _ _ R' _ _ hR' (fi.put hn _) (hk.append hR ho hg hgg hR')

theorem doL_append {t e size bytes id2 cap k m b2 c2 : Nat} {e2 : TypeId} {a : Option Addr} {ys news : List Value} {x y : Operand} (id : Nat) (hB : appB P t e size bytes = true) (hR : lookR w0.R id = some (ownD a, OwnF 0 e size a cap k ys))
    (hx : ev S x = some (.slice a k cap)) (hy : ev S y = some (.slice (some ⟨b2, 0, none⟩) m c2)) (hH : lookH H id2 = some (b2, news, e2)) (hm : Nat.blt 0 m = true) (hl : Nat.beq news.length (m * size) = true) (h1 : news.all Value.oneCell' = true)
    (h63 : k + m ≤ 9223372036854775807) (hby : (k + m) * bytes ≤ 140737488355328)
    (hw : wantedS ops S ⟨some d, .call ⟨.builtin .append, #[x, y], #[t, t]⟩, ty, pos, af, g⟩ = some true) (hn : Nat.blt d n = true)
    (next : ∀ a' cap' R', updR w0.R id (ownD a') (OwnF 0 e size a' cap' (k + m) (ys ++ news)) = some R' → DoL P n ⟨w0.w, R'⟩ ops Q rest ((d, .slice a' (k + m) cap') :: S) H) :
    DoL P n w0 ops Q (⟨some d, .call ⟨.builtin .append, #[x, y], #[t, t]⟩, ty, pos, af, g⟩ :: rest) S H := fun act w fi hk =>
  append_step hB hR hx hy (hk.at hH).2 hm hl h1 h63 hby fi hk hw hn fun a' cap' R' act' w' h2 h3 h4 => next a' cap' R' h2 act' w' h3 h4

/-! ### loops -/
def AllIn (S : Slots) : Slots → Prop
  | [] => True
  | (t, v) :: r => look S t = some v ∧ AllIn S r
theorem Fits.all {S' : Slots} {a : Act} (f : Fits n S a) (h : AllIn S S') : Fits n S' a := by
  refine ⟨f.size, f.defers, fun t v ht => f.has t v ?_⟩
  induction S' with
  | nil => cases ht
  | cons x S' ih =>
    obtain ⟨k, u⟩ := x
    by_cases e : k = t
    · subst e
      rw [look_cons_same] at ht
      cases ht
      exact h.1
    · rw [look_cons_ne _ _ e] at ht
      exact ih h.2 ht
def AllInH (H : Heap) : Heap → Prop
  | [] => True
  | (k, x) :: r => lookH H k = some x ∧ AllInH H r
theorem lookH_at {H : Heap} {i : Nat} {x : Nat × List Value × TypeId} (h : lookH H i = some x) : (i, x) ∈ H := by
  induction H with
  | nil => cases h
  | cons y H ih =>
    obtain ⟨k, y⟩ := y
    simp only [lookH] at h
    cases hb : Nat.beq k i with
    | true =>
      rw [hb] at h; simp at h; subst h
      rw [Nat.eq_of_beq_eq_true hb]
      exact List.mem_cons_self
    | false => rw [hb] at h; simp at h; exact List.mem_cons_of_mem _ (ih h)
theorem heap_uniq : ∀ {H : Heap}, (H.map (·.2.1)).Nodup → ∀ p ∈ H, ∀ q ∈ H, p.2.1 = q.2.1 → p = q := by
  intro H
  induction H with
  | nil => intro _ p hp; cases hp
  | cons z H ih =>
    intro nd p hp q hq e
    rw [List.map_cons, List.nodup_cons] at nd
    rcases List.mem_cons.1 hp with p1 | p1
    · rcases List.mem_cons.1 hq with q1 | q1
      · rw [p1, q1]
      · exact absurd (List.mem_map.2 ⟨q, q1, by rw [← e, p1]⟩) nd.1
    · rcases List.mem_cons.1 hq with q1 | q1
      · exact absurd (List.mem_map.2 ⟨p, p1, by rw [e, q1]⟩) nd.1
      · exact ih nd.2 p p1 q q1 e
def idsB : Heap → Bool
  | [] => true
  | (k, _) :: r => !(r.any fun x => Nat.beq x.1 k) && idsB r
theorem Knows.all {w : World} {H' : Heap} (k : Knows w0 H w) (h : AllInH H H') (hp : idsB H' = true) : Knows w0 H' w := by
  have hm : ∀ x ∈ H', lookH H x.1 = some x.2 := by
    clear hp
    induction H' with
    | nil => intro x hx; cases hx
    | cons z H' ih =>
      intro x hx
      rcases List.mem_cons.1 hx with rfl | hx
      · exact h.1
      · exact ih h.2 x hx
  have nd : (H'.map (·.2.1)).Nodup := by
    clear h
    induction H' with
    | nil => exact List.nodup_nil
    | cons z H' ih =>
      obtain ⟨kz, z⟩ := z
      simp only [idsB, Bool.and_eq_true, Bool.not_eq_true'] at hp
      rw [List.map_cons, List.nodup_cons]
      refine ⟨fun hz => ?_, ih hp.2 fun x hx => hm x (List.mem_cons_of_mem _ hx)⟩
      obtain ⟨y, hy, he⟩ := List.mem_map.1 hz
      have h1 := lookH_at (hm _ List.mem_cons_self)
      have h2 := lookH_at (hm _ (List.mem_cons_of_mem _ hy))
      have h3 := heap_uniq k.nodup _ h2 _ h1 he
      have h4 : y.1 = kz := congrArg Prod.fst h3
      have h5 := List.any_eq_false.1 hp.1 y hy
      rw [h4] at h5
      simp at h5
  refine ⟨k.grow, fun x hx => ?_, nd, fun F hF => (k.facts F hF).heap fun x hx => ?_, k.apart⟩
  · obtain ⟨kx, b, cs, t⟩ := x
    exact k.at (hm _ hx)
  · obtain ⟨l, hl⟩ := lookH_mem (hm x hx)
    exact .inl ⟨_, hl, rfl⟩
theorem AllIn.app {A C : Slots} (h : AllIn S A) (h' : AllIn S C) : AllIn S (A ++ C) := by
  induction A with
  | nil => exact h'
  | cons x A ih => exact ⟨h.1, ih h.2⟩
theorem keepS_all {ks : List Nat} {S' : Slots} (h : keepS ks S = some S') : AllIn S S' := by
  have hs := keepS_spec h
  -- each entry of a kept list is looked up as itself
  have own : ∀ (ks : List Nat) (S S' : Slots), keepS ks S = some S' → ∀ A C t v, S' = A ++ (t, v) :: C → look S' t = some v := by
    intro ks S
    induction S generalizing ks with
    | nil => intro S' h A C t v e; simp [keepS] at h; subst h; simp at e
    | cons x S ih =>
      obtain ⟨k, u⟩ := x
      intro S' h A C t v e
      simp only [keepS] at h
      cases hb : ks.any (Nat.beq k) with
      | false => rw [hb] at h; simp at h; exact ih ks S' h A C t v e
      | true =>
        rw [hb] at h
        obtain ⟨S2, h2, rfl⟩ := consO_some h
        cases A with
        | nil =>
          simp only [List.nil_append, List.cons.injEq, Prod.mk.injEq] at e
          obtain ⟨⟨rfl, rfl⟩, _⟩ := e
          exact look_cons_same _ _ _
        | cons y A =>
          simp only [List.cons_append, List.cons.injEq] at e
          have h3 := ih _ S2 h2 A C t v e.2
          have hne : k ≠ t := fun hk => by
            have := (keepS_spec h2 t v h3).2
            rw [List.mem_filter] at this
            have h4 := this.2
            rw [hk] at h4
            simp at h4
          rw [look_cons_ne _ _ hne]
          exact h3
  have all : ∀ C : Slots, (∀ A, S' = A ++ C → AllIn S C) := by
    intro C
    induction C with
    | nil => intro _ _; trivial
    | cons x C ih =>
      intro A e
      obtain ⟨t, v⟩ := x
      exact ⟨(hs t v (own ks S S' h A C t v e)).1, ih (A ++ [(t, v)]) (by rw [e]; simp)⟩
  exact all S' [] rfl

/-- a round has ended in a state of the family again -/
def Again {α : Type} (n : Nat) (μ : α → Nat) (I : α → Prop) (Wb : α → Base) (St : α → Slots) (He : α → Heap) (a : α) : Act → World → Prop := fun act w => ∃ a', I a' ∧ μ a' < μ a ∧ Fits n (St a') act ∧ Knows (Wb a') (He a') w
theorem doC_loop {α : Type} {c : Code} {μ : α → Nat} {I : α → Prop} {Wb : α → Base} {St : α → Slots} {He : α → Heap}
    (h : ∀ a, I a → DoC P n (Wb a) (Exit.then (Again n μ I Wb St He a) Q) c (St a) (He a)) : ∀ a, I a → DoC P n (Wb a) Q (.loop c) (St a) (He a) := by
  have key : ∀ (N : Nat) (a : α), I a → μ a < N → ∀ act w, Fits n (St a) act → Knows (Wb a) (He a) w → Code.rounds P c Q N act w := by
    intro N
    induction N with
    | zero => intro a _ hlt; omega
    | succ N ih =>
      intro a ha hlt act w hf hk
      rw [rounds_succ]
      refine wp_mono (h a ha act w hf hk) fun e act' w' hq => ?_
      cases e with
      | normal =>
        obtain ⟨a', h1, h2, h3, h4⟩ := hq
        exact ih a' h1 (by omega) act' w' h3 h4
      | _ => exact hq
  exact fun a ha act w hf hk => wp_loop_rounds (μ a + 1) (key (μ a + 1) a ha (by omega) act w hf hk)
theorem post_again {α : Type} {μ : α → Nat} {I : α → Prop} {Wb : α → Base} {St : α → Slots} {He : α → Heap} {a : α} {w1 : Base} (a' : α) (hI : I a') (hμ : μ a' < μ a) (hb : w1 = Wb a') (hS : AllIn S (St a')) (hH : AllInH H (He a')) (hid : idsB (He a') = true) :
    PostAt n w1 (Exit.then (Again n μ I Wb St He a) Q) .normal S H := fun act w f k => by
  subst hb
  exact ⟨a', hI, hμ, f.all hS, k.all hH hid⟩
theorem doC_sub {c : Code} {S' : Slots} {H' : Heap} (hS : AllIn S S') (hH : AllInH H H') (hid : idsB H' = true) (h : DoC P n w0 Q c S' H') : DoC P n w0 Q c S H := fun a w f k => h a w (f.all hS) (k.all hH hid)
/-- a block of its own becomes a slice that may grow -/
def remH : Heap → Nat → Option Heap
  | [], _ => none
  | (k, x) :: H, i => bif Nat.beq k i then some H else consO (k, x) (remH H i)
theorem remH_spec {H H' : Heap} {i : Nat} (h : remH H i = some H') : ∃ A C x, H = A ++ (i, x) :: C ∧ H' = A ++ C ∧ lookH H i = some x := by
  induction H generalizing H' with
  | nil => cases h
  | cons y H ih =>
    obtain ⟨k, y⟩ := y
    simp only [remH] at h
    cases hb : Nat.beq k i with
    | true =>
      rw [hb] at h; simp at h; subst h
      have := Nat.eq_of_beq_eq_true hb
      subst this
      exact ⟨[], H, y, rfl, rfl, by simp [lookH]⟩
    | false =>
      rw [hb] at h
      obtain ⟨H2, h2, rfl⟩ := consO_some h
      obtain ⟨A, C, x, e1, e2, e3⟩ := ih h2
      exact ⟨(k, y) :: A, C, x, by rw [e1]; rfl, by rw [e2]; rfl, by simp [lookH, hb, e3]⟩
theorem Knows.toOwn {w : World} {H' : Heap} {id bb len e size : Nat} {cs : List Value} (k : Knows w0 H w) (hH : lookH H id = some (bb, cs, e)) (hr : remH H id = some H') (hl : Nat.beq cs.length (len * size) = true) (hm : Nat.ble len 9223372036854775807 = true) :
    Knows ⟨w0.w, (id, ownD (some ⟨bb, 0, none⟩), OwnF 0 e size (some ⟨bb, 0, none⟩) len len cs) :: w0.R⟩ H' w := by
  obtain ⟨A, C, x, e1, e2, e3⟩ := remH_spec hr
  rw [hH] at e3
  cases e3
  have hat := k.at hH
  have hsub : H'.Sublist H := by rw [e1, e2]; exact List.Sublist.append_left (List.sublist_cons_self _ _) _
  have hno : ∀ y ∈ H', y.2.1 ≠ bb := fun y hy e => by
    have nd := k.nodup
    rw [e1, List.map_append, List.map_cons] at nd
    rw [e2] at hy
    have h1 := List.nodup_append.1 nd
    have h2 := List.nodup_cons.1 h1.2.1
    rcases List.mem_append.1 hy with h | h
    · exact h1.2.2 y.2.1 (List.mem_map.2 ⟨y, h, rfl⟩) bb List.mem_cons_self e
    · exact h2.1 (List.mem_map.2 ⟨y, h, e⟩)
  have hl' := Nat.eq_of_beq_eq_true hl
  have hm' := Nat.le_of_ble_eq_true hm
  have hmax : maxLen = 9223372036854775807 := rfl
  refine ⟨k.grow, fun y hy => k.has y (hsub.mem hy), (hsub.map _).nodup k.nodup, fun y hy => ?_, List.Pairwise.cons (fun y hy q ⟨ad, h1, h2⟩ hd => ?_) k.apart⟩
  · rcases List.mem_cons.1 hy with rfl | hy
    · refine ⟨own_dep _ _ _ _ _ _ _, fun q ⟨ad, h1, h2⟩ => ?_, ⟨hl', .inr ⟨bb, len, cs.toArray, rfl, Nat.zero_le _, hat.2, Nat.le_refl _, by omega, by simpa using hl', by rw [← hl']; simp⟩⟩⟩
      simp only [Option.some.injEq] at h1
      subst h1
      simp only at h2
      subst h2
      exact ⟨hat.1, heap_lt hat.2, fun y hy e => hno y hy e⟩
    · exact (k.facts y hy).heap fun z hz => .inl ⟨z, hsub.mem hz, rfl⟩
  · simp only [Option.some.injEq] at h1
    subst h1
    simp only at h2
    subst h2
    exact ((k.facts y hy).at' _ hd).2.2 _ (lookH_at hH) rfl
theorem doC_toOwn {c : Code} {H' : Heap} {bb e : Nat} {cs : List Value} (id len size : Nat) (hH : lookH H id = some (bb, cs, e)) (hr : remH H id = some H') (hl : Nat.beq cs.length (len * size) = true) (hm : Nat.ble len 9223372036854775807 = true)
    (h : DoC P n ⟨w0.w, (id, ownD (some ⟨bb, 0, none⟩), OwnF 0 e size (some ⟨bb, 0, none⟩) len len cs) :: w0.R⟩ Q c S H') : DoC P n w0 Q c S H := fun a w f k => h a w f (k.toOwn hH hr hl hm)
theorem doC_loopK {α : Type} {c : Code} {Sf : Slots} {Hf : Heap} (ks ids : List Nat) (μ : α → Nat) (I : α → Prop) (Wb : α → Base) (chg : α → Slots) (chgH : α → Heap) (a0 : α) (hK : keepS ks S = some Sf) (hKH : keepH ids H = some Hf) (h0 : I a0) (hb : w0 = Wb a0) (hS : AllIn S (chg a0)) (hH : AllInH H (chgH a0 ++ Hf)) (hid : idsB (chgH a0 ++ Hf) = true)
    (round : ∀ a, I a → DoC P n (Wb a) (Exit.then (Again n μ I Wb (fun x => chg x ++ Sf) (fun x => chgH x ++ Hf) a) Q) c (chg a ++ Sf) (chgH a ++ Hf)) : DoC P n w0 Q (.loop c) S H := by
  subst hb
  exact doC_sub (AllIn.app hS (keepS_all hK)) hH hid (doC_loop round a0 h0)
/-- what is told at the end of a call -/
theorem told_and {m : Nat} {F G : World → Prop} {w : World} (h : Told m F w) (k : Told m G w) : Told m (fun w => F w ∧ G w) w := by
  obtain ⟨D, h1, h2, h3⟩ := h
  obtain ⟨E, k1, k2, k3⟩ := k
  exact ⟨fun q => D q ∨ E q, fun w w' hq ⟨a, c⟩ => ⟨h1 w w' (fun q hd => hq q (.inl hd)) a, k1 w w' (fun q hd => hq q (.inr hd)) c⟩, fun q hq => hq.elim (h2 q) (k2 q), h3, k3⟩
theorem told_fact {w : World} {id : Nat} {D : Nat → Prop} {F : World → Prop} (k : Knows w0 H w) (h : lookR w0.R id = some (D, F)) : Told w0.w.heap.size F w := by
  obtain ⟨j, hj⟩ := lookR_mem h
  obtain ⟨h1, h2, h3⟩ := k.facts _ hj
  exact ⟨D, h1, fun q hq => ⟨(h2 q hq).1, (h2 q hq).2.1⟩, h3⟩
theorem Told.imp {m : Nat} {D : Nat → Prop} {F G : World → Prop} {w : World} (hD : Depends D G) (hb : ∀ q, D q → m ≤ q ∧ q < w.heap.size) (h : G w) : Told m G w := ⟨D, hD, hb, h⟩
end
end Go.Sx

/- Part 4 of the texts behind the last one: rules and contracts. No condition. -/
import Derived.Test.YtonampcmhhhffaaGreatKR3
namespace Go.Sx
open Go.RowKit
section
variable {P : Program} {n : Nat} {w0 : Base} {ops : Array Oper} {Q : Exit → Act → World → Prop} {S : Slots} {H : Heap}
variable {d : Nat} {ty : TypeId} {pos : String} {af : Array Edge} {g : Option (Nat × Bool)}
variable {X : Type} {Φ : X → Prop} {V : X → Value} {F : X → World → Prop}
variable {f : FuncId} {xs : List Operand} {ats : Array TypeId} {vs : List Value} {rest : List Oper} {G : Ghosts}
theorem doG_told {K : Slots → Ghosts → Prop} (he : Enters P f) (ha : evs S xs = some vs) (hc : ∀ w', Knows w0 H w' → Calls P f vs.toArray w' (RetsF Φ V F w'))
    (hw : wantedS ops S ⟨some d, .call ⟨.value (.func f), xs.toArray, ats⟩, ty, pos, af, g⟩ = some true) (hn : Nat.blt d n = true) (hno : look S d = none)
    (next : DoG P n w0 ops H K rest S ((d, false, TellT w0 H Φ V F) :: G)) : DoG P n w0 ops H K (⟨some d, .call ⟨.value (.func f), xs.toArray, ats⟩, ty, pos, af, g⟩ :: rest) S G :=
  doG_t (opT_call he ha fun w' k => (hc w' k).mono fun e w'' ⟨x, hx, h1, h2, h3⟩ => ⟨V x, h1, h2, tell_of k hx (.inr trivial) h2.size h3⟩) stable_tell hw rfl hn hno next
variable {σ : Type} {b : Nat → Prop} {w1 : Base} {H0 : Heap} {Wf : σ → Base} {Hf : σ → Heap} {es : List Nat} {K : σ → Slots → Ghosts → Prop} {ix : Nat} {s s2 : σ}
theorem tell_fam {w w' : World} {x : X} (fam : Fam b w1 H0 Wf Hf) (k : Knows (Wf s) (Hf s) w) (hx : Φ x) (h : Told w.heap.size (F x) w') : TellT w1 H0 Φ V F (V x) w' := by
  obtain ⟨D, h1, h2, h3⟩ := h
  refine ⟨x, hx, rfl, D, h1, fun q hq => ⟨?_, (h2 q hq).2, fun y hy e => ?_, fun y hy hd => ?_⟩, h3⟩
  · have := k.grow.size
    rw [fam.size] at this
    exact Nat.le_trans this (h2 q hq).1
  · have hm : y.2.1 ∈ H0.map (·.2.1) := List.mem_map.2 ⟨y, hy, rfl⟩
    rw [← fam.adr s] at hm
    obtain ⟨z, hz, hze⟩ := List.mem_map.1 hm
    have := k.lt z hz
    have := (h2 q hq).1
    omega
  · rw [← fam.told s] at hy
    have := ((k.facts y hy).at' q hd).2.1
    have := (h2 q hq).1
    omega
theorem doM_tellE (fam : Fam b w1 H0 Wf Hf) (he : Enters P f) (ha : evs S xs = some vs)
    (hc : ∀ w, Knows (Wf s) (Hf s) w → Calls P f vs.toArray w (fun e w' => ∃ x, Φ x ∧ e = .returned (V x) ∧ GrowB b w w' ∧ Knows (Wf s2) (Hf s2) w' ∧ Told w.heap.size (F x) w'))
    (hw : wantedS ops S ⟨some d, .call ⟨.value (.func f), xs.toArray, ats⟩, ty, pos, af, g⟩ = some true) (hn : Nat.blt d n = true) (hno : look S d = none) (hi : es.contains ix = true)
    (next : DoM P n ops b Wf Hf H0 es K rest (ix + 1) s2 S ((d, false, TellT w1 H0 Φ V F) :: G)) :
    DoM P n ops b Wf Hf H0 es K (⟨some d, .call ⟨.value (.func f), xs.toArray, ats⟩, ty, pos, af, g⟩ :: rest) ix s S G := by
  refine ⟨d, TellT w1 H0 Φ V F, s2, rfl, by simpa using hn, rfl, stableB_tell fam, .inr ⟨hi, fun a w _ hkn k => ?_⟩, .inr (.inl ⟨hno, next⟩)⟩
  have h1 : ∀ t' ∈ Oper.looksAt ops ⟨some d, .call ⟨.value (.func f), xs.toArray, ats⟩, ty, pos, af, g⟩, ∀ v, look S t' = some v → a.tmps[t']? = some v := fun t' ht => (hkn t' ht).1
  refine ⟨wanted_know hw h1, ?_⟩
  rw [exec_know (known_evs ha) rfl h1, call_run he ha]
  exact ⟨GrowB.refl _ _, (hc w k).mono fun e w' ⟨x, hx, q1, q2, q3, q4⟩ => ⟨V x, q1, q2, tell_fam fam k hx q4, q3⟩⟩
theorem doM_toldB {bb i0 i j : Nat} {sl : Value} {L : List Int} {K : Nat → Slots → Ghosts → Prop} {t0 : TypeId} (id : Nat) (hI : IntsAt w0.w w0.w.heap.size sl L) (hH : lookH H id = some (bb, srcC sl L i0, t0)) (he : Enters P f) (ha : evs S xs = some vs)
    (hc : ∀ w', Src w' bb sl L i → Calls P f vs.toArray w' (RetsF Φ V F (srcW w' bb sl L j)))
    (hw : wantedS ops S ⟨some d, .call ⟨.value (.func f), xs.toArray, ats⟩, ty, pos, af, g⟩ = some true) (hn : Nat.blt d n = true) (hno : look S d = none) (hi : es.contains ix = true)
    (next : DoM P n ops (· = bb) (fun _ => w0) (hfB H id sl L) H es K rest (ix + 1) j S ((d, false, TellT w0 H Φ V F) :: G)) :
    DoM P n ops (· = bb) (fun _ => w0) (hfB H id sl L) H es K (⟨some d, .call ⟨.value (.func f), xs.toArray, ats⟩, ty, pos, af, g⟩ :: rest) ix i S G :=
  doM_tellE (famB hH) he ha (fun w' k => by
    obtain ⟨h1, h2⟩ := hfB_spec hH i
    obtain ⟨h3, h4⟩ := k.at h2
    refine (hc w' ⟨⟨t0, h4⟩, intsAt_grow hI k.grow h3⟩).mono fun e w'' ⟨x, hx, he, hg, ht⟩ => ?_
    have hu : updH (hfB H id sl L i) id (srcC sl L j) = some (hfB H id sl L j) := (updH_updH h1).trans (hfB_spec hH j).1
    have hsz : (srcW w' bb sl L j).heap.size = w'.heap.size := srcW_size _ _ _ _ _
    exact ⟨x, hx, he, (GrowB.set bb w' _).trans (.of hg), (k.set h2 hu).next hg, by rw [hsz] at ht; exact ht⟩) hw hn hno hi next
theorem Yields.mono {w : World} {T T' : Pred} {r : Result Next} (h : Yields P w T r) (hT : ∀ v w', Grow w w' → T v w' → T' v w') : Yields P w T' r := by
  cases r with
  | ok x w' =>
    cases x <;> simp only [Yields] at h ⊢
    case value v => exact ⟨h.1, hT v w' h.1 h.2⟩
    case skip => exact ⟨h.1, hT undef w' h.1 h.2⟩
    case enter ff args => exact ⟨h.1, h.2.mono fun e w'' ⟨v, h1, h2, h3⟩ => ⟨v, h1, h2, hT v w'' (h.1.trans h2) h3⟩⟩
  | halt x w' => simp only [Yields] at h
theorem doM_map {o : Oper} {T : Pred} {V' : X → Value} (fam : Fam b w1 H0 Wf Hf) (t : Nat) (hG : lookG G t = some (TellT w1 H0 Φ V F)) (hsel : noSel o = true) (ho : ∀ s' x, Φ x → OpV P (Wf s') ((t, V x) :: S) (Hf s') o (V' x))
    (hw : ∀ u, wantedS ops ((t, u) :: S) o = some true) (hm : t ∈ o.looksAt ops) (hd : o.dst = some d) (hn : Nat.blt d n = true) (hno : look S d = none) (hi : es.contains ix = false)
    (next : DoM P n ops b Wf Hf H0 es K rest (ix + 1) s S ((d, false, TellT w1 H0 Φ V' F) :: G)) : DoM P n ops b Wf Hf H0 es K (o :: rest) ix s S G := by
  refine ⟨d, TellT w1 H0 Φ V' F, s, hd, by simpa using hn, hsel, stableB_tell fam, .inl ⟨hi, rfl, fun s' a w _ hkn k => ?_⟩, .inr (.inl ⟨hno, next⟩)⟩
  obtain ⟨u, hu, x, hx, hux, D, q1, q2, q3⟩ := (hkn t hm).2 _ hG
  subst hux
  have h1 : ∀ t' ∈ o.looksAt ops, ∀ v', look ((t, V x) :: S) t' = some v' → a.tmps[t']? = some v' := fun t' ht' v' hv' => by
    by_cases e : t = t'
    · subst e; rw [look_cons_same] at hv'; cases hv'; exact hu
    · rw [look_cons_ne _ _ e] at hv'; exact (hkn t' ht').1 v' hv'
  rw [wanted_know (hw (V x)) h1, if_pos rfl, exec_know (ho s' x hx).known hsel h1]
  refine ((ho s' x hx).run w k).mono fun v w' gr hv => ?_
  exact ⟨x, hx, hv, D, q1, fun q hq => ⟨(q2 q hq).1, Nat.lt_of_lt_of_le (q2 q hq).2.1 gr.size, (q2 q hq).2.2⟩, q1 _ _ (fun q hq => gr.block q (q2 q hq).2.1) q3⟩
def TellRow (w0 : Base) (H : Heap) {X : Type} (Φ : X → Prop) (F : X → World → Prop) (cs : X → List Value) (e : TypeId) (len : Nat) : Pred := fun u w =>
  ∃ x, Φ x ∧ (∃ D : Nat → Prop, Depends D (F x) ∧ (∀ k, D k → w0.w.heap.size ≤ k ∧ k < w.heap.size ∧ (∀ y ∈ H, y.2.1 ≠ k) ∧ ∀ y ∈ w0.R, ¬ y.2.1 k) ∧ F x w) ∧
    ∃ bb, u = .slice (some ⟨bb, 0, none⟩) len len ∧ (w0.w.heap.size ≤ bb ∧ ∀ y ∈ H, y.2.1 ≠ bb) ∧ w.heap[bb]? = some (.cells (cs x).toArray e)
theorem stableB_tellrow {cs : X → List Value} {e len : Nat} (fam : Fam b w1 H0 Wf Hf) : StableB b (TellRow w1 H0 Φ F cs e len) := fun u w w' ⟨x, hx, ⟨D, h1, h2, h3⟩, bb, q1, q2, q3⟩ gr => by
  have hnb : ∀ k, w1.w.heap.size ≤ k → (∀ y ∈ H0, y.2.1 ≠ k) → ¬ b k := fun k h4 h5 hb => by
    rcases fam.here k hb with h | h
    · omega
    · obtain ⟨y, hy, he⟩ := List.mem_map.1 h
      exact h5 y hy he
  exact ⟨x, hx, ⟨D, h1, fun k hk => ⟨(h2 k hk).1, Nat.lt_of_lt_of_le (h2 k hk).2.1 gr.size, (h2 k hk).2.2⟩, h1 _ _ (fun k hk => gr.block k (h2 k hk).2.1 (hnb k (h2 k hk).1 (h2 k hk).2.2.1)) h3⟩,
    bb, q1, q2, by rw [gr.block bb (heap_lt q3) (hnb bb q2.1 q2.2)]; exact q3⟩
theorem doM_rowmap {t e size len : Nat} {z : Value} {parts : List (Nat × Operand)} {vsX : X → List (Nat × Value)} {cs : X → List Value} (fam : Fam b w1 H0 Wf Hf) (tg : Nat) (hG : lookG G tg = some (TellT w1 H0 Φ V F)) (hs : slcB P t e size = true) (hz : zeroIs P e z) (hzs : Nat.beq z.cells.size size = true) (h0 : Nat.blt 0 size = true)
    (hl : Nat.ble (len * size) 16777216 = true) (h1 : Nat.blt 0 len = true) (hp : ∀ x, evp ((tg, V x) :: S) parts = some (vsX x)) (hf : ∀ x, fillV (rowPl len size) (rowZ z.cells.toList len) (vsX x) = some (cs x))
    (hw : ∀ u, wantedS ops ((tg, u) :: S) ⟨some d, .buildSlice t len parts.toArray, ty, pos, af, g⟩ = some true) (hm : tg ∈ Oper.looksAt ops ⟨some d, .buildSlice t len parts.toArray, ty, pos, af, g⟩) (hn : Nat.blt d n = true) (hno : look S d = none) (hi : es.contains ix = false)
    (next : DoM P n ops b Wf Hf H0 es K rest (ix + 1) s S ((d, false, TellRow w1 H0 Φ F cs e len) :: G)) : DoM P n ops b Wf Hf H0 es K (⟨some d, .buildSlice t len parts.toArray, ty, pos, af, g⟩ :: rest) ix s S G := by
  refine ⟨d, TellRow w1 H0 Φ F cs e len, s, rfl, by simpa using hn, rfl, stableB_tellrow fam, .inl ⟨hi, rfl, fun s' a w _ hkn k => ?_⟩, .inr (.inl ⟨hno, next⟩)⟩
  obtain ⟨u, hu, x, hx, hux, D, q1, q2, q3⟩ := (hkn tg hm).2 _ hG
  subst hux
  have hk1 : ∀ t' ∈ Oper.looksAt ops ⟨some d, .buildSlice t len parts.toArray, ty, pos, af, g⟩, ∀ v', look ((tg, V x) :: S) t' = some v' → a.tmps[t']? = some v' := fun t' ht' v' hv' => by
    by_cases e : tg = t'
    · subst e; rw [look_cons_same] at hv'; cases hv'; exact hu
    · rw [look_cons_ne _ _ e] at hv'; exact (hkn t' ht').1 v' hv'
  have op := opT_bslice (P := P) (w0 := Wf s') (H := Hf s') (d := d) (ty := ty) (pos := pos) (af := af) (g := g) hs hz hzs h0 hl h1 (hp x) (hf x)
  rw [wanted_know (hw (V x)) hk1, if_pos rfl, exec_know op.known rfl hk1]
  refine (op.run w k).mono fun v w' gr ⟨bb, r1, r2, r3, r4⟩ => ?_
  refine ⟨x, hx, ⟨D, q1, fun q hq => ⟨(q2 q hq).1, Nat.lt_of_lt_of_le (q2 q hq).2.1 gr.size, (q2 q hq).2.2⟩, q1 _ _ (fun q hq => gr.block q (q2 q hq).2.1) q3⟩, bb, r1, ⟨by rw [← fam.size s']; exact r2, fun y hy e => ?_⟩, r4⟩
  have hmm : y.2.1 ∈ H0.map (·.2.1) := List.mem_map.2 ⟨y, hy, rfl⟩
  rw [← fam.adr s'] at hmm
  obtain ⟨zz, hzz, hze⟩ := List.mem_map.1 hmm
  exact r3.1 zz hzz (hze.trans e)
theorem stableB_rowT {cs : List Value} {e len : Nat} (fam : Fam b w1 H0 Wf Hf) : StableB b (RowT w1 H0 cs e len) := fun u w w' ⟨bb, q1, q2, q3, q4⟩ gr =>
  ⟨bb, q1, q2, q3, by
    rw [gr.block bb (heap_lt q4) fun hb => ?_]
    · exact q4
    · rcases fam.here bb hb with h | h
      · omega
      · obtain ⟨y, hy, he⟩ := List.mem_map.1 h
        exact q3.1 y hy he⟩
theorem doM_bslice {t e size len : Nat} {z : Value} {parts : List (Nat × Operand)} {vs : List (Nat × Value)} {cs : List Value} (fam : Fam b w1 H0 Wf Hf) (hs : slcB P t e size = true) (hz : zeroIs P e z) (hzs : Nat.beq z.cells.size size = true) (h0 : Nat.blt 0 size = true)
    (hl : Nat.ble (len * size) 16777216 = true) (h1 : Nat.blt 0 len = true) (hp : evp S parts = some vs) (hf : fillV (rowPl len size) (rowZ z.cells.toList len) vs = some cs)
    (hw : wantedS ops S ⟨some d, .buildSlice t len parts.toArray, ty, pos, af, g⟩ = some true) (hn : Nat.blt d n = true) (hno : look S d = none) (hi : es.contains ix = false)
    (next : DoM P n ops b Wf Hf H0 es K rest (ix + 1) s S ((d, false, RowT w1 H0 cs e len) :: G)) : DoM P n ops b Wf Hf H0 es K (⟨some d, .buildSlice t len parts.toArray, ty, pos, af, g⟩ :: rest) ix s S G := by
  refine ⟨d, RowT w1 H0 cs e len, s, rfl, by simpa using hn, rfl, stableB_rowT fam, .inl ⟨hi, rfl, fun s' a w _ hkn k => ?_⟩, .inr (.inl ⟨hno, next⟩)⟩
  have hk1 : ∀ t' ∈ Oper.looksAt ops ⟨some d, .buildSlice t len parts.toArray, ty, pos, af, g⟩, ∀ v', look S t' = some v' → a.tmps[t']? = some v' := fun t' ht' => (hkn t' ht').1
  have op := opT_bslice (P := P) (w0 := Wf s') (H := Hf s') (d := d) (ty := ty) (pos := pos) (af := af) (g := g) hs hz hzs h0 hl h1 hp hf
  rw [wanted_know hw hk1, if_pos rfl, exec_know op.known rfl hk1]
  refine (op.run w k).mono fun v w' gr ⟨bb, r1, r2, r3, r4⟩ => ⟨bb, r1, by rw [← fam.size s']; exact r2, ⟨fun y hy e => ?_, fun y hy hd => r3.2 y (by rw [fam.told s']; exact hy) hd⟩, r4⟩
  have hmm : y.2.1 ∈ H0.map (·.2.1) := List.mem_map.2 ⟨y, hy, rfl⟩
  rw [← fam.adr s'] at hmm
  obtain ⟨zz, hzz, hze⟩ := List.mem_map.1 hmm
  exact r3.1 zz hzz (hze.trans e)
variable {tl : List Oper} {Fw : World → Prop}
theorem knows_told {w : World} {D : Nat → Prop} {FF : World → Prop} (k : Knows w0 H w) (id : Nat) (h1 : Depends D FF) (h2 : ∀ q, D q → w0.w.heap.size ≤ q ∧ q < w.heap.size ∧ (∀ y ∈ H, y.2.1 ≠ q) ∧ ∀ y ∈ w0.R, ¬ y.2.1 q) (h3 : FF w) : Knows ⟨w0.w, (id, D, FF) :: w0.R⟩ H w :=
  ⟨k.grow, k.has, k.nodup, fun x hx => by
    rcases List.mem_cons.1 hx with rfl | hx
    · exact ⟨h1, fun q hq => ⟨(h2 q hq).1, (h2 q hq).2.1, (h2 q hq).2.2.1⟩, h3⟩
    · exact k.facts x hx, List.Pairwise.cons (fun y hy q hq hd => (h2 q hq).2.2.2 y hy hd) k.apart⟩
theorem tail_tellrow {w1 : Base} {H0 : Heap} {cs : X → List Value} {e len : Nat} (id : Nat) (hsz : w1.w.heap.size = w0.w.heap.size) (hR : w1.R = w0.R) (hA : H0.map (·.2.1) = H.map (·.2.1))
    (h : ∀ x D bb, Φ x → Tail P n ⟨w0.w, (id, D, F x) :: w0.R⟩ ops Q tl (fun w => w.heap[bb]? = some (.cells (cs x).toArray e)) ((d, .slice (some ⟨bb, 0, none⟩) len len) :: S) H []) :
    Tail P n w0 ops Q tl Fw S H ((d, false, TellRow w1 H0 Φ F cs e len) :: G) := fun a w f k hx _ _ hF => by
  obtain ⟨u, hu, x, hxx, ⟨D, q1, q2, q3⟩, bb, hub, _, hblk⟩ := hx _ List.mem_cons_self
  subst hub
  refine h x D bb hxx a w (fits_more f hu) (knows_told k id q1 (fun q hq => ⟨by rw [← hsz]; exact (q2 q hq).1, (q2 q hq).2.1, fun y hy e => ?_, fun y hy hd => (q2 q hq).2.2.2 y (by rw [hR]; exact hy) hd⟩) q3) (fun y hy => by cases hy) (fun y hy => by cases hy) (fun y hy => by cases hy) hblk
  have hm : y.2.1 ∈ H.map (·.2.1) := List.mem_map.2 ⟨y, hy, rfl⟩
  rw [← hA] at hm
  obtain ⟨z, hz, hze⟩ := List.mem_map.1 hm
  exact (q2 q hq).2.2.1 z hz (hze.trans e)
theorem tail_row {w1 : Base} {H0 : Heap} {cs : List Value} {e len : Nat} (h : ∀ bb, Tail P n w0 ops Q tl (fun w => w.heap[bb]? = some (.cells cs.toArray e)) ((d, .slice (some ⟨bb, 0, none⟩) len len) :: S) H []) :
    Tail P n w0 ops Q tl Fw S H ((d, false, RowT w1 H0 cs e len) :: G) := fun a w f k hx _ _ hF => by
  obtain ⟨u, hu, bb, hub, _, _, hblk⟩ := hx _ List.mem_cons_self
  subst hub
  exact h bb a w (fits_more f hu) k (fun y hy => by cases hy) (fun y hy => by cases hy) (fun y hy => by cases hy) hblk
theorem tail_append {t e size bytes cap k m bb c2 : Nat} {e2 : TypeId} {a : Option Addr} {ys news : List Value} {x y : Operand} (id : Nat) (hB : appB P t e size bytes = true) (hR : lookR w0.R id = some (ownD a, OwnF 0 e size a cap k ys))
    (hx : ev S x = some (.slice a k cap)) (hy : ev S y = some (.slice (some ⟨bb, 0, none⟩) m c2)) (hm : Nat.blt 0 m = true) (hl : Nat.beq news.length (m * size) = true) (h1 : news.all Value.oneCell' = true)
    (h63 : k + m ≤ 9223372036854775807) (hby : (k + m) * bytes ≤ 140737488355328)
    (hw : wantedS ops S ⟨some d, .call ⟨.builtin .append, #[x, y], #[t, t]⟩, ty, pos, af, g⟩ = some true) (hn : Nat.blt d n = true)
    (next : ∀ a' cap' R', updR w0.R id (ownD a') (OwnF 0 e size a' cap' (k + m) (ys ++ news)) = some R' → DoL P n ⟨w0.w, R'⟩ ops Q tl ((d, .slice a' (k + m) cap') :: S) H) :
    Tail P n w0 ops Q (⟨some d, .call ⟨.builtin .append, #[x, y], #[t, t]⟩, ty, pos, af, g⟩ :: tl) (fun w => w.heap[bb]? = some (.cells news.toArray e2)) S H [] := fun act w fi hk _ _ _ hblk =>
  append_step hB hR hx hy hblk hm hl h1 h63 hby fi hk hw hn fun a' cap' R' act' w' h2 h3 h4 => next a' cap' R' h2 act' w' h3 h4
variable {B : Base} {sb si : Nat} {sl : Value} {L : List Int}
theorem doC_toOwnA {c : Code} {H' : Heap} {bb e : Nat} {cs : List Value} (id len size : Nat) (hH : lookH H id = some (bb, cs, e)) (hr : remH H id = some H') (hl : Nat.beq cs.length (len * size) = true) (hm : Nat.ble len 9223372036854775807 = true)
    (h : DoC P n (srcB ⟨B.w, (id, ownD (some ⟨bb, 0, none⟩), OwnF 0 e size (some ⟨bb, 0, none⟩) len len cs) :: B.R⟩ sb sl L si) Q c S H') : DoC P n (srcB B sb sl L si) Q c S H := doC_toOwn id len size hH hr hl hm h
theorem tail_appendA {t e size bytes cap k m bb c2 : Nat} {e2 : TypeId} {a : Option Addr} {ys news : List Value} {x y : Operand} (id : Nat) (hB : appB P t e size bytes = true) (hR : lookR B.R id = some (ownD a, OwnF 0 e size a cap k ys))
    (hx : ev S x = some (.slice a k cap)) (hy : ev S y = some (.slice (some ⟨bb, 0, none⟩) m c2)) (hm : Nat.blt 0 m = true) (hl : Nat.beq news.length (m * size) = true) (h1 : news.all Value.oneCell' = true)
    (h63 : k + m ≤ 9223372036854775807) (hby : (k + m) * bytes ≤ 140737488355328)
    (hw : wantedS ops S ⟨some d, .call ⟨.builtin .append, #[x, y], #[t, t]⟩, ty, pos, af, g⟩ = some true) (hn : Nat.blt d n = true)
    (next : ∀ a' cap' R', updR B.R id (ownD a') (OwnF 0 e size a' cap' (k + m) (ys ++ news)) = some R' → DoL P n (srcB ⟨B.w, R'⟩ sb sl L si) ops Q tl ((d, .slice a' (k + m) cap') :: S) H) :
    Tail P n (srcB B sb sl L si) ops Q (⟨some d, .call ⟨.builtin .append, #[x, y], #[t, t]⟩, ty, pos, af, g⟩ :: tl) (fun w => w.heap[bb]? = some (.cells news.toArray e2)) S H [] :=
  tail_append (w0 := srcB B sb sl L si) id hB hR hx hy hm hl h1 h63 hby hw hn next
theorem Knows.merge {wb : World} {w : World} {i1 id : Nat} {D1 D2 : Nat → Prop} {F1 F2 F' : World → Prop} {R R' : Facts} (k : Knows ⟨wb, (i1, D1, F1) :: R⟩ H w) (hR : lookR R id = some (D2, F2)) (hu : updR R id (fun q => D1 q ∨ D2 q) F' = some R')
    (hD : Depends D1 F1 → Depends D2 F2 → Depends (fun q => D1 q ∨ D2 q) F') (hF : ∀ w, F1 w → F2 w → F' w) : Knows ⟨wb, R'⟩ H w := by
  obtain ⟨R1, R2, kk, x, e1, e2, e3⟩ := updR_spec hu
  rw [hR] at e3
  cases e3
  have hap := List.pairwise_cons.1 k.apart
  have hap0 := hap.2
  rw [e1] at hap0
  have hap1 := List.pairwise_append.1 hap0
  have hap2 := List.pairwise_cons.1 hap1.2.1
  have f1 := k.facts _ List.mem_cons_self
  have hm2 : (kk, D2, F2) ∈ R := by rw [e1]; simp
  have f2 := k.facts _ (List.mem_cons_of_mem _ hm2)
  have inR : ∀ y ∈ R1 ++ R2, y ∈ R := fun y hy => by
    rw [e1]
    rcases List.mem_append.1 hy with h | h
    · exact List.mem_append_left _ h
    · exact List.mem_append_right _ (List.mem_cons_of_mem _ h)
  refine ⟨k.grow, k.has, k.nodup, fun y hy => ?_, ?_⟩
  · have hy' : y ∈ R1 ++ (kk, (fun q => D1 q ∨ D2 q), F') :: R2 := by rw [← e2]; exact hy
    rcases List.mem_append.1 hy' with h | h
    · exact k.facts y (List.mem_cons_of_mem _ (inR y (List.mem_append_left _ h)))
    · rcases List.mem_cons.1 h with rfl | h
      · exact ⟨hD f1.dep f2.dep, fun q hq => hq.elim (f1.at' q) (f2.at' q), hF w f1.holds f2.holds⟩
      · exact k.facts y (List.mem_cons_of_mem _ (inR y (List.mem_append_right _ h)))
  · show R'.Pairwise _
    rw [e2]
    refine List.pairwise_append.2 ⟨hap1.1, List.pairwise_cons.2 ⟨fun y hy q hq hd => ?_, hap2.2⟩, fun y hy z hz q hyq hzq => ?_⟩
    · rcases hq with hq | hq
      · exact hap.1 y (inR y (List.mem_append_right _ hy)) q hq hd
      · exact hap2.1 y hy q hq hd
    · rcases List.mem_cons.1 hz with rfl | hz
      · rcases hzq with hq | hq
        · exact hap.1 y (inR y (List.mem_append_left _ hy)) q hq hyq
        · exact hap1.2.2 y hy _ List.mem_cons_self q hyq hq
      · exact hap1.2.2 y hy z (List.mem_cons_of_mem _ hz) q hyq hzq
theorem doC_merge {c : Code} {wb : World} {i1 : Nat} {D1 D2 : Nat → Prop} {F1 F2 : World → Prop} {R R' : Facts} (id : Nat) (F' : World → Prop) (hR : lookR R id = some (D2, F2)) (hu : updR R id (fun q => D1 q ∨ D2 q) F' = some R')
    (hD : Depends D1 F1 → Depends D2 F2 → Depends (fun q => D1 q ∨ D2 q) F') (hF : ∀ w, F1 w → F2 w → F' w) (h : DoC P n ⟨wb, R'⟩ Q c S H) : DoC P n ⟨wb, (i1, D1, F1) :: R⟩ Q c S H := fun a w f k => h a w f (k.merge hR hu hD hF)
theorem doC_fact {c : Code} (id : Nat) (F' : World → Prop) (hF : ∀ w, F' w) (h : DoC P n ⟨w0.w, (id, (fun _ => False), F') :: w0.R⟩ Q c S H) : DoC P n w0 Q c S H := fun a w f k =>
  h a w f ⟨k.grow, k.has, k.nodup, fun x hx => by
    rcases List.mem_cons.1 hx with rfl | hx
    · exact ⟨fun _ w' _ _ => hF w', fun q hq => hq.elim, hF w⟩
    · exact k.facts x hx, List.Pairwise.cons (fun y _ q hq => hq.elim) k.apart⟩
end
end Go.Sx
namespace Go.Sx
open Go.RowKit
def vS (s : ByteArray) : Value := .string s
section
variable {P : Program} {n : Nat} {w0 : Base} {ops : Array Oper} {Q : Exit → Act → World → Prop} {S : Slots} {H : Heap}
variable {d : Option Tmp} {ty : TypeId} {pos : String} {af : Array Edge} {g : Option (Nat × Bool)}
theorem opV_sliceStr {t : TypeId} {x lo hi : Operand} {s : ByteArray} {k k' : IntKind} {i j : Int} (ht : P.underlying t = some .string) (hx : ev S x = some (.string s)) (hlo : ev S lo = some (.int k i)) (hhi : ev S hi = some (.int k' j)) (h0 : 0 ≤ i) (h1 : i ≤ j) (h2 : j ≤ s.size) :
    OpV P w0 S H ⟨d, .slice t x (some lo) (some hi) none, ty, pos, af, g⟩ (.string (s.extract i.toNat j.toNat)) :=
  opV_of (by simp [knownB, Op.operands, hx, hlo, hhi]) rfl fun w _ => by
    have e1 : 0 ≤ j := by omega
    have e2 : i ≤ (j.toNat : Int) := by omega
    simp [execOp, evD_of hx, evD_of hlo, evD_of hhi, Instr.sliceAt, Instr.slice, run_underlying ht, Instr.sliceBounds, Instr.sliceBound, asIntOf, h0, e1, h2, e2]
    intro h
    omega
end
end Go.Sx
namespace Go.Sx
structure J where
  name : ByteArray
  kind : Int
  parent : Int
  off : Z3
  lo : Int
  hi : Int
  weight : Int
  speed : Int
  accel : Int
  torque : Int
def jc (j : J) : List Value := [.string j.name, .int .i64 j.kind, .int .i64 j.parent, .int .i64 j.off.x, .int .i64 j.off.y, .int .i64 j.off.z, .int .i64 j.lo, .int .i64 j.hi, .int .i64 j.weight, .int .i64 j.speed, .int .i64 j.accel, .int .i64 j.torque]
def jv (j : J) : Value := .agg #[.string j.name, .int .i64 j.kind, .int .i64 j.parent, .int .i64 j.off.x, .int .i64 j.off.y, .int .i64 j.off.z, .int .i64 j.lo, .int .i64 j.hi, .int .i64 j.weight, .int .i64 j.speed, .int .i64 j.accel, .int .i64 j.torque]
def z3c (v : Z3) : List Value := [.int .i64 v.x, .int .i64 v.y, .int .i64 v.z]
def ptOf (L : List Int) (q : Nat) (c : Z3) : Z3 := ⟨c.x + srcS L q 3 * 32768, c.y + srcS L (q + 1) 2 * 32768, c.z + srcS L (q + 2) 2 * 32768⟩
def ptsN (L : List Int) (p : Nat) : Nat := (srcR L p 4).toNat
def ptsOf (L : List Int) (p : Nat) (c : Z3) : Nat → List Z3
  | 0 => [c]
  | k + 1 => ptsOf L p c k ++ [ptOf L (p + 1 + 3 * k) c]
theorem ptsOf_len (L : List Int) (p : Nat) (c : Z3) : ∀ k, (ptsOf L p c k).length = k + 1
  | 0 => rfl
  | k + 1 => by simp [ptsOf, ptsOf_len L p c k]
theorem ptsN_b (L : List Int) (p : Nat) : ptsN L p ≤ 3 := by
  have := srcR_bnd L p (k := 4) (by decide)
  unfold ptsN
  omega
def ptsC (L : List Int) (p : Nat) (c : Z3) (k : Nat) : List Value := ((ptsOf L p c k).map z3c).flatten
theorem ptsC_succ (L : List Int) (p : Nat) (c : Z3) (k : Nat) : ptsC L p c (k + 1) = ptsC L p c k ++ z3c (ptOf L (p + 1 + 3 * k) c) := by
  simp [ptsC, ptsOf]
theorem rows3 (l : List Z3) : ∀ r ∈ l.map z3c, r.length = 3 := fun r hr => by
  obtain ⟨v, _, rfl⟩ := List.mem_map.1 hr
  rfl
theorem pts_slc {L : List Int} {p k cap : Nat} {c : Z3} {a : Option Addr} {e : TypeId} {w : World} (h : OwnF 0 e 3 a cap (k + 1) (ptsC L p c k) w) : SlcIs 3 a ((ptsOf L p c k).map z3c) w := by
  refine own_slc (m := 0) (e := e) (cap := cap) (rows3 _) ?_
  rw [List.length_map, ptsOf_len]
  exact h
def abc : ByteArray := ⟨#[97, 98, 99, 100, 101, 102, 103, 104, 105, 106]⟩
def letterB (k : Int) : ByteArray := abc.extract k.toNat (k + 1).toNat
def kindOf (k : Int) : Int := if k = 0 then 3 else if k = 1 then 3 else if k = 2 then 1 else if k = 3 then 2 else if k = 4 then 4 else if k = 5 then 5 else if k = 6 then 3 else 0
def jBase (L : List Int) (p : Nat) (k : Int) : J := ⟨letterB k, kindOf (srcR L (p + 2) 8), if srcR L (p + 3) 4 = 1 then -1 else k - 1, if 0 < k then ⟨131072, srcS L (p + 4) 2 * 32768, srcS L (p + 5) 1 * 32768⟩ else ⟨0, 0, 0⟩, 0, 0, 1 + srcR L p 4, 65536, 65536 + srcR L (p + 1) 3, 327680⟩
def jQ (p : Nat) (k : Int) : Nat := if 0 < k then p + 6 else p + 4
def jointOf (L : List Int) (p : Nat) (k : Int) : J × Nat :=
  if kindOf (srcR L (p + 2) 8) = 0 then (jBase L p k, jQ p k)
  else if kindOf (srcR L (p + 2) 8) = 4 ∨ kindOf (srcR L (p + 2) 8) = 5 then ({ jBase L p k with lo := -srcR L (jQ p k) 3 * 65536, hi := srcR L (jQ p k + 1) 4 * 32768 }, jQ p k + 2)
  else ({ jBase L p k with lo := (-srcR L (jQ p k) 5 * 65536).tdiv 8, hi := ((1 + srcR L (jQ p k + 1) 4) * 65536).tdiv 8 + srcR L (jQ p k + 2) 3 }, jQ p k + 3)
theorem jQ_pos {p : Nat} {k : Int} (h : 0 < k) : jQ p k = p + 6 := if_pos h
theorem jQ_neg {p : Nat} {k : Int} (h : ¬ 0 < k) : jQ p k = p + 4 := if_neg h
theorem jointOf_fix {L : List Int} {p : Nat} {k : Int} (h : kindOf (srcR L (p + 2) 8) = 0) : jointOf L p k = (jBase L p k, jQ p k) := if_pos h
theorem jointOf_sl {L : List Int} {p : Nat} {k : Int} (h : kindOf (srcR L (p + 2) 8) = 4 ∨ kindOf (srcR L (p + 2) 8) = 5) : jointOf L p k = ({ jBase L p k with lo := -srcR L (jQ p k) 3 * 65536, hi := srcR L (jQ p k + 1) 4 * 32768 }, jQ p k + 2) := by
  unfold jointOf
  rw [if_neg (by omega), if_pos h]
theorem jointOf_tu {L : List Int} {p : Nat} {k : Int} (h0 : ¬ kindOf (srcR L (p + 2) 8) = 0) (h : ¬ (kindOf (srcR L (p + 2) 8) = 4 ∨ kindOf (srcR L (p + 2) 8) = 5)) : jointOf L p k = ({ jBase L p k with lo := (-srcR L (jQ p k) 5 * 65536).tdiv 8, hi := ((1 + srcR L (jQ p k + 1) 4) * 65536).tdiv 8 + srcR L (jQ p k + 2) 3 }, jQ p k + 3) := by
  unfold jointOf
  rw [if_neg h0, if_neg h]
theorem jBase_a {L : List Int} {p : Nat} {k : Int} (hp : srcR L (p + 3) 4 = 1) (h : 0 < k) : jBase L p k = ⟨letterB k, kindOf (srcR L (p + 2) 8), -1, ⟨131072, srcS L (p + 4) 2 * 32768, srcS L (p + 5) 1 * 32768⟩, 0, 0, 1 + srcR L p 4, 65536, 65536 + srcR L (p + 1) 3, 327680⟩ := by unfold jBase; rw [if_pos hp, if_pos h]
theorem jBase_b {L : List Int} {p : Nat} {k : Int} (hp : srcR L (p + 3) 4 = 1) (h : ¬ 0 < k) : jBase L p k = ⟨letterB k, kindOf (srcR L (p + 2) 8), -1, ⟨0, 0, 0⟩, 0, 0, 1 + srcR L p 4, 65536, 65536 + srcR L (p + 1) 3, 327680⟩ := by unfold jBase; rw [if_pos hp, if_neg h]
theorem jBase_c {L : List Int} {p : Nat} {k : Int} (hp : ¬ srcR L (p + 3) 4 = 1) (h : 0 < k) : jBase L p k = ⟨letterB k, kindOf (srcR L (p + 2) 8), k - 1, ⟨131072, srcS L (p + 4) 2 * 32768, srcS L (p + 5) 1 * 32768⟩, 0, 0, 1 + srcR L p 4, 65536, 65536 + srcR L (p + 1) 3, 327680⟩ := by unfold jBase; rw [if_neg hp, if_pos h]
theorem jBase_d {L : List Int} {p : Nat} {k : Int} (hp : ¬ srcR L (p + 3) 4 = 1) (h : ¬ 0 < k) : jBase L p k = ⟨letterB k, kindOf (srcR L (p + 2) 8), k - 1, ⟨0, 0, 0⟩, 0, 0, 1 + srcR L p 4, 65536, 65536 + srcR L (p + 1) 3, 327680⟩ := by unfold jBase; rw [if_neg hp, if_neg h]
def nJ (L : List Int) (i : Nat) : Nat := (1 + srcR L i 3).toNat
theorem nJ_b (L : List Int) (i : Nat) : 1 ≤ nJ L i ∧ nJ L i ≤ 3 ∧ ((nJ L i : Nat) : Int) = 1 + srcR L i 3 := by
  have := srcR_bnd L i (k := 3) (by decide)
  unfold nJ
  omega
def jsOf (L : List Int) (i : Nat) : Nat → List J × Nat
  | 0 => ([], i + 1)
  | k + 1 => ((jsOf L i k).1 ++ [(jointOf L (jsOf L i k).2 (k : Int)).1], (jointOf L (jsOf L i k).2 (k : Int)).2)
def jsC (L : List Int) (i k : Nat) : List Value := ((jsOf L i k).1.map jc).flatten
theorem jsC_succ (L : List Int) (i k : Nat) : jsC L i (k + 1) = jsC L i k ++ jc (jointOf L (jsOf L i k).2 (k : Int)).1 := by simp [jsC, jsOf]
theorem jsOf_len (L : List Int) (i : Nat) : ∀ k, (jsOf L i k).1.length = k
  | 0 => rfl
  | k + 1 => by simp [jsOf, jsOf_len L i k]
theorem rows12 (l : List J) : ∀ r ∈ l.map jc, r.length = 12 := fun r hr => by
  obtain ⟨v, _, rfl⟩ := List.mem_map.1 hr
  rfl
theorem js_slc {L : List Int} {i k cap : Nat} {a : Option Addr} {e : TypeId} {w : World} (h : OwnF 0 e 12 a cap k (jsC L i k) w) : SlcIs 12 a ((jsOf L i k).1.map jc) w := by
  refine own_slc (m := 0) (e := e) (cap := cap) (rows12 _) ?_
  rw [List.length_map, jsOf_len]
  exact h
structure Ms where
  link : Int
  mass : Int
  p : Z3
def mc (m : Ms) : List Value := [.int .i64 m.link, .int .i64 m.mass, .int .i64 m.p.x, .int .i64 m.p.y, .int .i64 m.p.z]
def mQ (L : List Int) (i : Nat) : Nat := (jsOf L i (nJ L i)).2
def nM (L : List Int) (i : Nat) : Nat := (srcR L (mQ L i) 3).toNat
theorem nM_b (L : List Int) (i : Nat) : nM L i ≤ 2 ∧ ((nM L i : Nat) : Int) = srcR L (mQ L i) 3 := by
  have := srcR_bnd L (mQ L i) (k := 3) (by decide)
  unfold nM
  omega
def msOf (L : List Int) (i : Nat) : Nat → List Ms
  | 0 => []
  | k + 1 => msOf L i k ++ [⟨srcR L (mQ L i + 1 + 4 * k) (nJ L i), 1 + srcR L (mQ L i + 1 + 4 * k + 1) 9000, ⟨srcS L (mQ L i + 1 + 4 * k + 2) 3 * 32768, 0, srcS L (mQ L i + 1 + 4 * k + 3) 2 * 32768⟩⟩]
def msC (L : List Int) (i k : Nat) : List Value := ((msOf L i k).map mc).flatten
theorem msC_succ (L : List Int) (i k : Nat) : msC L i (k + 1) = msC L i k ++ mc ⟨srcR L (mQ L i + 1 + 4 * k) (nJ L i), 1 + srcR L (mQ L i + 1 + 4 * k + 1) 9000, ⟨srcS L (mQ L i + 1 + 4 * k + 2) 3 * 32768, 0, srcS L (mQ L i + 1 + 4 * k + 3) 2 * 32768⟩⟩ := by simp [msC, msOf]
theorem msOf_len (L : List Int) (i : Nat) : ∀ k, (msOf L i k).length = k
  | 0 => rfl
  | k + 1 => by simp [msOf, msOf_len L i k]
theorem rows5 (l : List Ms) : ∀ r ∈ l.map mc, r.length = 5 := fun r hr => by
  obtain ⟨v, _, rfl⟩ := List.mem_map.1 hr
  rfl
theorem ms_slc {L : List Int} {i k cap : Nat} {a : Option Addr} {e : TypeId} {w : World} (h : OwnF 0 e 5 a cap k (msC L i k) w) : SlcIs 5 a ((msOf L i k).map mc) w := by
  refine own_slc (m := 0) (e := e) (cap := cap) (rows5 _) ?_
  rw [List.length_map, msOf_len]
  exact h
def robQ (L : List Int) (i : Nat) : Nat := mQ L i + 1 + 4 * nM L i
structure Sp where
  link : Int
  radius : Int
  pts : List Z3
abbrev Ad := Option Addr × Nat
def spc (s : Sp) (d : Ad) : List Value := [.int .i64 s.link, .int .i64 s.radius, .slice d.1 s.pts.length d.2]
def spRows : List Sp → List Ad → List (List Value)
  | s :: ss, d :: ds => spc s d :: spRows ss ds
  | _, _ => []
def spC (ss : List Sp) (ds : List Ad) : List Value := (spRows ss ds).flatten
theorem spRows_snoc : ∀ (ss : List Sp) (ds : List Ad) (s : Sp) (d : Ad), ds.length = ss.length → spRows (ss ++ [s]) (ds ++ [d]) = spRows ss ds ++ [spc s d]
  | [], [], s, d, _ => rfl
  | _ :: ss, _ :: ds, s, d, h => by simp [spRows, spRows_snoc ss ds s d (by simpa using h)]
  | [], _ :: _, _, _, h => by simp at h
  | _ :: _, [], _, _, h => by simp at h
theorem spC_snoc {ss : List Sp} {ds : List Ad} (s : Sp) (d : Ad) (h : ds.length = ss.length) : spC (ss ++ [s]) (ds ++ [d]) = spC ss ds ++ spc s d := by
  unfold spC
  rw [spRows_snoc ss ds s d h]
  simp
theorem spRows_len : ∀ (ss : List Sp) (ds : List Ad), ds.length = ss.length → (spRows ss ds).length = ss.length
  | [], _, _ => by simp [spRows]
  | _ :: ss, _ :: ds, h => by simp [spRows, spRows_len ss ds (by simpa using h)]
  | _ :: _, [], h => by simp at h
theorem spRows_sz : ∀ (ss : List Sp) (ds : List Ad), ∀ r ∈ spRows ss ds, r.length = 3
  | [], _, r, hr => by simp [spRows] at hr
  | _ :: _, [], r, hr => by simp [spRows] at hr
  | s :: ss, d :: ds, r, hr => by
    rcases List.mem_cons.1 hr with rfl | hr
    · rfl
    · exact spRows_sz ss ds r hr
def PtsF : List Sp → List Ad → World → Prop
  | s :: ss, d :: ds, w => SlcIs 3 d.1 (s.pts.map z3c) w ∧ PtsF ss ds w
  | _, _, _ => True
theorem PtsF_snoc : ∀ (ss : List Sp) (ds : List Ad) (s : Sp) (d : Ad) (w : World), ds.length = ss.length → PtsF ss ds w → SlcIs 3 d.1 (s.pts.map z3c) w → PtsF (ss ++ [s]) (ds ++ [d]) w
  | [], [], s, d, w, _, _, h => ⟨h, trivial⟩
  | _ :: ss, _ :: ds, s, d, w, h, h1, h2 => ⟨h1.1, PtsF_snoc ss ds s d w (by simpa using h) h1.2 h2⟩
  | [], _ :: _, _, _, _, h, _, _ => by simp at h
  | _ :: _, [], _, _, _, h, _, _ => by simp at h
theorem PtsF_un : ∀ (ss : List Sp) (ds : List Ad) (s : Sp) (d : Ad) (w : World), ds.length = ss.length → PtsF (ss ++ [s]) (ds ++ [d]) w → PtsF ss ds w ∧ SlcIs 3 d.1 (s.pts.map z3c) w
  | [], [], s, d, w, _, h => ⟨trivial, h.1⟩
  | _ :: ss, _ :: ds, s, d, w, h, h1 => by
    obtain ⟨p, q⟩ := PtsF_un ss ds s d w (by simpa using h) h1.2
    exact ⟨⟨h1.1, p⟩, q⟩
  | [], _ :: _, _, _, _, h, _ => by simp at h
  | _ :: _, [], _, _, _, h, _ => by simp at h
theorem PtsF_dep {ss : List Sp} {ds : List Ad} {s : Sp} {d : Ad} {D1 D2 : Nat → Prop} (h : ds.length = ss.length) (h1 : Depends D1 (SlcIs 3 d.1 (s.pts.map z3c))) (h2 : Depends D2 (PtsF ss ds)) : Depends (fun q => D1 q ∨ D2 q) (PtsF (ss ++ [s]) (ds ++ [d])) := fun w w' hq hF => by
  obtain ⟨p, q⟩ := PtsF_un ss ds s d w h hF
  exact PtsF_snoc ss ds s d w' h (h2 w w' (fun k hk => hq k (.inr hk)) p) (h1 w w' (fun k hk => hq k (.inl hk)) q)
def linkSp (l : List Int) (q k : Nat) : Sp := ⟨(k : Int), ((1 + srcR l (q + 1) 3) * 65536).tdiv 8, ptsOf l (q + 3) ⟨srcR l (q + 2) 4 * 32768, 0, 0⟩ (ptsN l (q + 3))⟩
def shA (l : List Int) : Nat → List Sp × Nat
  | 0 => ([], robQ l 0)
  | k + 1 => if srcR l (shA l k).2 5 < 4 then ((shA l k).1 ++ [linkSp l (shA l k).2 k], (shA l k).2 + 3 + 1 + 3 * ptsN l ((shA l k).2 + 3)) else ((shA l k).1, (shA l k).2 + 1)
theorem shA_t {l : List Int} {k : Nat} (h : srcR l (shA l k).2 5 < 4) : shA l (k + 1) = ((shA l k).1 ++ [linkSp l (shA l k).2 k], (shA l k).2 + 3 + 1 + 3 * ptsN l ((shA l k).2 + 3)) := if_pos h
theorem shA_f {l : List Int} {k : Nat} (h : ¬ srcR l (shA l k).2 5 < 4) : shA l (k + 1) = ((shA l k).1, (shA l k).2 + 1) := if_neg h
theorem shA_len (l : List Int) : ∀ k, (shA l k).1.length ≤ k
  | 0 => Nat.le_refl _
  | k + 1 => by
    have := shA_len l k
    unfold shA
    split <;> simp <;> omega
def obN (l : List Int) : Nat := (1 + srcR l (shA l (nJ l 0)).2 3).toNat
theorem obN_b (l : List Int) : 1 ≤ obN l ∧ obN l ≤ 3 ∧ ((obN l : Nat) : Int) = 1 + srcR l (shA l (nJ l 0)).2 3 := by
  have := srcR_bnd l (shA l (nJ l 0)).2 (k := 3) (by decide)
  unfold obN
  omega
def obSp (l : List Int) (q : Nat) : Sp := ⟨-1, ((1 + srcR l (q + 3) 4) * 65536).tdiv 8, ptsOf l (q + 4) ⟨srcS l q 9 * 32768, srcS l (q + 1) 9 * 32768, srcS l (q + 2) 2 * 32768⟩ (ptsN l (q + 4))⟩
def shB (l : List Int) : Nat → List Sp × Nat
  | 0 => ((shA l (nJ l 0)).1, (shA l (nJ l 0)).2 + 1)
  | k + 1 => ((shB l k).1 ++ [obSp l (shB l k).2], (shB l k).2 + 4 + 1 + 3 * ptsN l ((shB l k).2 + 4))
theorem shB_len (l : List Int) : ∀ k, (shB l k).1.length ≤ nJ l 0 + k
  | 0 => shA_len l _
  | k + 1 => by
    have := shB_len l k
    simp [shB]
    omega
def scQ (l : List Int) : Nat := (shB l (obN l)).2
def skN (l : List Int) : Nat := if srcR l (scQ l) 5 = 1 then 1 else 0
def skR (l : List Int) : List (List Value) := if srcR l (scQ l) 5 = 1 then [[.int .i64 (-1), .int .i64 (srcR l (scQ l + 1) (nJ l 0))]] else []
theorem sk_t {l : List Int} (h : srcR l (scQ l) 5 = 1) : skN l = 1 ∧ skR l = [[.int .i64 (-1), .int .i64 (srcR l (scQ l + 1) (nJ l 0))]] := ⟨if_pos h, if_pos h⟩
theorem sk_f {l : List Int} (h : ¬ srcR l (scQ l) 5 = 1) : skN l = 0 ∧ skR l = [] := ⟨if_neg h, if_neg h⟩
abbrev ScX := Ad × Ad × Ad × Ad × List Ad
def scV (l : List Int) (x : ScX) : Value := .agg #[.slice x.1.1 (nJ l 0) x.1.2, .slice x.2.1.1 (nM l 0) x.2.1.2, .slice x.2.2.1.1 (shB l (obN l)).1.length x.2.2.1.2, .slice x.2.2.2.1.1 (skN l) x.2.2.2.1.2]
def scP (l : List Int) (x : ScX) : Prop := x.2.2.2.2.length = (shB l (obN l)).1.length
def scF (l : List Int) (x : ScX) (w : World) : Prop := (SlcIs 12 x.1.1 ((jsOf l 0 (nJ l 0)).1.map jc) w ∧ SlcIs 5 x.2.1.1 ((msOf l 0 (nM l 0)).map mc) w) ∧ (SlcIs 3 x.2.2.1.1 (spRows (shB l (obN l)).1 x.2.2.2.2) w ∧ PtsF (shB l (obN l)).1 x.2.2.2.2 w) ∧ SlcIs 2 x.2.2.2.1.1 (skR l) w
theorem sp_slc {ss : List Sp} {ds : List Ad} {m cap : Nat} {a : Option Addr} {e : TypeId} {w : World} (hm : m = ss.length) (hl : ds.length = m) (h : OwnF 0 e 3 a cap m (spC ss ds) w) : SlcIs 3 a (spRows ss ds) w := by
  refine own_slc (m := 0) (e := e) (cap := cap) (spRows_sz _ _) ?_
  rw [spRows_len ss ds (by omega), ← hm]
  exact h
end Go.Sx
namespace Go.Sx
open Go.RowKit
section
variable {P : Program} {n : Nat} {w0 : Base} {ops : Array Oper} {Q : Exit → Act → World → Prop} {H : Heap} {S0 : Slots}
def allB (ops : Array Oper) : Bool := depB ops ops.size && selfB ops ops.size && backB ops
theorem wpAny_all {cs : List Cert} {l : List Oper} {S' : Slots} {G' : Ghosts} (hB : allB l.toArray = true) (hlen : cs.length = l.length)
    (hcs : ∀ i o c, l.toArray[i]? = some o → cs[i]? = some c → CertOk P n w0 l.toArray H o c ∧ Stems S0 (cs.take i) c.S c.G)
    (hst : Stems S0 cs S' G') (hK : PostAt n w0 Q .normal S' H) :
    ∀ (f : Nat) (listed : Array Bool) (a : Act) (w : World), listed.size = l.toArray.size → undone listed l.toArray.size = f → Inv S0 w0 n H cs listed a w →
      wpAny P .any l.toArray Q f listed a w := by
  simp only [allB, Bool.and_eq_true] at hB
  obtain ⟨⟨hdep, hself⟩, hback⟩ := hB
  intro f
  induction f with
  | zero =>
    intro listed a w hsz hu inv
    have hall := undone_zero hu
    have hdone : ∀ i, i < l.length → listed.getD i false = true := fun i hi => by
      have h1 := hall i (by simpa using hi)
      have : i < listed.size := by rw [hsz]; simpa using hi
      simp [this] at h1 ⊢
      exact h1
    have hcN : ∀ i c, cs[i]? = some c → i < l.length := fun i c hc => by have := (List.getElem?_eq_some_iff.1 hc).1; omega
    have fits : Fits n S' a := ⟨inv.size, inv.defers, fun t v ht => by
      rcases hst.slots t v ht with ⟨c, hc, hd, hT⟩ | ⟨h0, hno⟩
      · obtain ⟨i, hi⟩ := List.mem_iff_getElem?.1 hc
        obtain ⟨u, hu, hTu⟩ := inv.done i c hi (hdone i (hcN i c hi))
        rw [hT] at hTu
        rw [← hd, hu]
        exact congrArg some hTu
      · exact inv.old t v h0 fun i c hi hd => absurd hd (hno c (List.mem_of_getElem? hi))⟩
    refine ⟨List.eq_nil_iff_forall_not_mem.2 fun i hi => ?_, hK a w fits inv.knows⟩
    obtain ⟨hun, o, ho, _⟩ := mem_ready.1 hi
    have h1 := hall i (Array.getElem?_eq_some_iff.1 ho).1
    rw [h1] at hun
    cases hun
  | succ f ih =>
    intro listed a w hsz hu inv
    obtain ⟨i0, hi0, hun0, hbefore⟩ := undone_first (listed := listed) (N := l.toArray.size) (by omega)
    have hready : i0 ∈ Region.ready .any l.toArray listed := by
      refine mem_ready.2 ⟨hun0, l.toArray[i0], Array.getElem?_eq_getElem hi0, fun e he hb => ?_⟩
      have h1 := List.all_eq_true.1 hback i0 (List.mem_range.2 hi0)
      simp only [Array.getElem?_eq_getElem hi0] at h1
      have h2 := Array.all_eq_true_iff_forall_mem.1 h1 e he
      simp only [hb, Bool.not_true, Bool.false_or, decide_eq_true_eq] at h2
      have h3 := hbefore e.on h2
      have : e.on < listed.size := by rw [hsz]; omega
      simp [this] at h3 ⊢
      exact h3
    refine ⟨fun h0 => (by rw [h0] at hready; cases hready), fun i hi => ?_⟩
    have hiN : i < l.toArray.size := by
      obtain ⟨_, o, ho, _⟩ := mem_ready.1 hi
      exact (Array.getElem?_eq_some_iff.1 ho).1
    have hun := (mem_ready.1 hi).1
    refine wpOp_mono (fun a' w' h => ?_) (step_inv (by simpa using hlen) hdep hself hcs inv hi hiN hsz (Nat.le_refl _))
    have := undone_set hun hiN
    exact ih _ a' w' (by simpa using hsz) (by omega) h
theorem doC_all {S : Slots} {l : List Oper} {id : Nat} (hm : P.follows .mixedOrders = true) (hB : allB l.toArray = true)
    (h : DoG P n w0 l.toArray H (fun S' _ => PostAt n w0 Q .normal S' H) l S []) : DoC P n w0 Q (.region id l.toArray true) S H := by
  intro a w fa ka
  obtain ⟨cs, hlen, hcs, S', G', hst, hK, hG⟩ := doG_certs (S0 := S) l S [] [] ⟨fun t v ht => .inr ⟨ht, fun c hc => by cases hc⟩, fun t T ht => by cases ht⟩ h
  refine wp_region_any hm ?_
  have hund : undone (Array.replicate l.toArray.size false) l.toArray.size = l.toArray.size := by
    have : ∀ k, k ≤ l.toArray.size → undone (Array.replicate l.toArray.size false) k = k := by
      intro k
      induction k with
      | zero => intro _; rfl
      | succ k ih =>
        intro hk
        have h1 := getD_in (listed := Array.replicate l.toArray.size false) (i := k) (by simp; simp at hk; omega) (getD_replicate_false _ _)
        simp only [undone, ih (by omega), h1]
        rfl
    exact this _ (Nat.le_refl _)
  exact wpAny_all (P := P) (n := n) (w0 := w0) (H := H) (S0 := S) (Q := Q) hB hlen (fun i o c hi hc => by
      have := hcs i o c (by simpa using hi) hc
      simpa using this) (by simpa using hst) hK _ _ a { w with drawn := w.drawn + 1 } (by simp) hund
      ⟨fa.size, fa.defers, fun t v ht _ => fa.has t v ht, fun i c _ hd => (by rw [getD_replicate_false] at hd; cases hd), fun i j c c' _ _ _ _ _ hd => (by rw [getD_replicate_false] at hd; cases hd), ka.next (Grow.refl w).drew⟩
theorem doL_false {S : Slots} {l : List Oper} (d : Nat) {b : Bool} (hb : look S d = some (.bool b)) (h : b = false) (next : DoL P n w0 ops Q l ((d, .bool false) :: S) H) : DoL P n w0 ops Q l S H :=
  fun a w f k => next a w (fits_lit f hb h) k
end
end Go.Sx
namespace Go.Sx
def JB (j : J) : Prop := -1000000 ≤ j.lo ∧ j.lo ≤ j.hi ∧ j.hi ≤ 1000000
theorem jointOf_b (L : List Int) (p : Nat) (k : Int) : JB (jointOf L p k).1 := by
  by_cases h0 : kindOf (srcR L (p + 2) 8) = 0
  · rw [jointOf_fix h0]
    exact ⟨by show (-1000000 : Int) ≤ 0; omega, by show (0 : Int) ≤ 0; omega, by show (0 : Int) ≤ 1000000; omega⟩
  · by_cases h : kindOf (srcR L (p + 2) 8) = 4 ∨ kindOf (srcR L (p + 2) 8) = 5
    · rw [jointOf_sl h]
      have a := srcR_bnd L (jQ p k) (k := 3) (by decide)
      have b := srcR_bnd L (jQ p k + 1) (k := 4) (by decide)
      unfold JB
      dsimp only
      omega
    · rw [jointOf_tu h0 h]
      have a := srcR_bnd L (jQ p k) (k := 5) (by decide)
      have b := srcR_bnd L (jQ p k + 1) (k := 4) (by decide)
      have c := srcR_bnd L (jQ p k + 2) (k := 3) (by decide)
      unfold JB
      dsimp only
      rw [Int.tdiv_eq_ediv_of_nonneg (a := (1 + srcR L (jQ p k + 1) 4) * 65536) (by omega), show (-srcR L (jQ p k) 5 * 65536).tdiv 8 = -(srcR L (jQ p k) 5 * 8192) by
        rw [show -srcR L (jQ p k) 5 * 65536 = -(srcR L (jQ p k) 5 * 8192) * 8 by omega]
        exact Int.mul_tdiv_cancel _ (by decide)]
      omega
theorem jsOf_b (L : List Int) (i : Nat) : ∀ k, ∀ j ∈ (jsOf L i k).1, JB j
  | 0, j, h => by cases h
  | k + 1, j, h => by
    rcases List.mem_append.1 (show j ∈ (jsOf L i k).1 ++ [(jointOf L (jsOf L i k).2 (k : Int)).1] from h) with h | h
    · exact jsOf_b L i k j h
    · obtain rfl := List.mem_singleton.1 h
      exact jointOf_b _ _ _
def ivc (v : Iv) : List Value := [.int .i64 v.lo, .int .i64 v.hi]
def ivC (rows : List Iv) : List Value := (rows.map ivc).flatten
theorem ivC_snoc (rows : List Iv) (v : Iv) : ivC (rows ++ [v]) = ivC rows ++ ivc v := by simp [ivC]
theorem rows2 (l : List Iv) : ∀ r ∈ l.map ivc, r.length = 2 := fun r hr => by
  obtain ⟨v, _, rfl⟩ := List.mem_map.1 hr
  rfl
theorem iv_slc {rows : List Iv} {k cap : Nat} {a : Option Addr} {e : TypeId} {w : World} (hl : rows.length = k) (h : OwnF 0 e 2 a cap k (ivC rows) w) : SlcIs 2 a (rows.map ivc) w := by
  refine own_slc (m := 0) (e := e) (cap := cap) (rows2 _) ?_
  rw [List.length_map, hl]
  exact h
end Go.Sx
namespace Go.Sx
section
variable {P : Program} {w0 : Base} {S : Slots} {H : Heap} {d : Option Tmp} {ty : TypeId} {pos : String} {af : Array Edge} {g : Option (Nat × Bool)}
def fldB (P : Program) (s f off : Nat) : Bool :=
  match P.underlying s with
  | some (.struct fields) => match fields[f]? with
    | some fld => fld.offset == off && tyB P fld.type false 1
    | none => false
  | _ => false
theorem opV_field1 {s f off' : Nat} {x : Operand} {vs : Array Value} {v : Value} (hF : fldB P s f off' = true) (hx : ev S x = some (.agg vs)) (hv : vs[off']? = some v) :
    OpV P w0 S H ⟨d, .field s x f, ty, pos, af, g⟩ v :=
  opV_of (by simp [knownB, Op.operands, hx]) rfl fun w _ => by
    unfold fldB at hF
    cases hu : P.underlying s with
    | none => simp [hu] at hF
    | some ds =>
      cases ds <;> simp [hu] at hF
      rename_i fields
      cases hf : fields[f]? with
      | none => simp [hf] at hF
      | some fld =>
        simp [hf] at hF
        obtain ⟨h1, h2⟩ := hF
        subst h1
        simp [execOp, evD_of hx, Instr.field, run_underlying hu, hf, asAgg, part, tyB_agg h2, hv]
end
def motV (ft fs fr : Nat) (k : Int) : Value := .agg #[.func (.func (if k = 1 ∨ k = 2 ∨ k = 3 then ft else if k = 4 ∨ k = 5 ∨ k = 6 then fs else fr)) #[.int .i64 (if k = 1 ∨ k = 2 ∨ k = 3 then k - 1 else if k = 4 ∨ k = 5 ∨ k = 6 then k - 4 else 0)] #[]]
theorem mot_t {ft fs fr : Nat} {k : Int} (h : k = 1 ∨ k = 2 ∨ k = 3) : motV ft fs fr k = .agg #[.func (.func ft) #[.int .i64 (k - 1)] #[]] := by
  unfold motV; rw [if_pos h, if_pos h]
theorem mot_s {ft fs fr : Nat} {k : Int} (h : k = 4 ∨ k = 5 ∨ k = 6) : motV ft fs fr k = .agg #[.func (.func fs) #[.int .i64 (k - 4)] #[]] := by
  have h2 : ¬ (k = 1 ∨ k = 2 ∨ k = 3) := by omega
  unfold motV; rw [if_neg h2, if_neg h2, if_pos h, if_pos h]
theorem mot_r {ft fs fr : Nat} {k : Int} (h : ¬ (k = 1 ∨ k = 2 ∨ k = 3)) (h2 : ¬ (k = 4 ∨ k = 5 ∨ k = 6)) : motV ft fs fr k = .agg #[.func (.func fr) #[.int .i64 0] #[]] := by
  unfold motV; rw [if_neg h, if_neg h, if_neg h2, if_neg h2]
def V3.put (k : Int) (a : Iv) : V3 := if k = 0 then ⟨a, iv0, iv0⟩ else if k = 1 then ⟨iv0, a, iv0⟩ else ⟨iv0, iv0, a⟩
def jMot (k : Int) (a : Iv) : Po := if k = 1 ∨ k = 2 ∨ k = 3 then Po.turn (k - 1) a else if k = 4 ∨ k = 5 ∨ k = 6 then Po.shift (V3.put (k - 4) a) else Po.rest
theorem jMot_t {k : Int} {a : Iv} (h : k = 1 ∨ k = 2 ∨ k = 3) : jMot k a = Po.turn (k - 1) a := if_pos h
theorem jMot_s {k : Int} {a : Iv} (h : k = 4 ∨ k = 5 ∨ k = 6) : jMot k a = Po.shift (V3.put (k - 4) a) := by
  have h2 : ¬ (k = 1 ∨ k = 2 ∨ k = 3) := by omega
  unfold jMot; rw [if_neg h2, if_pos h]
theorem jMot_r {k : Int} {a : Iv} (h : ¬ (k = 1 ∨ k = 2 ∨ k = 3)) (h2 : ¬ (k = 4 ∨ k = 5 ∨ k = 6)) : jMot k a = Po.rest := by
  unfold jMot; rw [if_neg h, if_neg h2]
def jPose (k : Int) (o : Z3) (a : Iv) : Po := Po.mul (Po.shift (V3.of o)) (jMot k a)
end Go.Sx
namespace Go.Sx
open Go.RowKit
section
variable {P : Program} {n : Nat} {w0 : Base} {ops : Array Oper} {Q : Exit → Act → World → Prop} {S : Slots} {H : Heap}
variable {d : Nat} {ty : TypeId} {pos : String} {af : Array Edge} {g : Option (Nat × Bool)} {rest : List Oper}
theorem Knows.swap {w w' : World} {R' : Facts} {id : Nat} {D D' : Nat → Prop} {F F' : World → Prop} (hk : Knows w0 H w) (hR : lookR w0.R id = some (D, F)) (hg : GrowB D w w') (hD : ∀ q, D' q → D q)
    (hd : Depends D' F') (hF : F' w') (hu : updR w0.R id D' F' = some R') : Knows ⟨w0.w, R'⟩ H w' := by
  obtain ⟨R1, R2, kk, x, e1, e2, e3⟩ := updR_spec hu
  rw [hR] at e3
  cases e3
  have hmem : (kk, D, F) ∈ w0.R := by rw [e1]; simp
  have hfa := hk.facts _ hmem
  have hap := hk.apart
  rw [e1] at hap
  have hap1 := List.pairwise_append.1 hap
  have hap2 := List.pairwise_cons.1 hap1.2.1
  have other : ∀ y ∈ w0.R, (∀ q, y.2.1 q → ¬ D q) → RFact w0.w.heap.size H y.2.1 y.2.2 w' := fun y hy hn => by
    have hy2 := hk.facts y hy
    exact ⟨hy2.dep, fun q hq => ⟨(hy2.at' q hq).1, Nat.lt_of_lt_of_le (hy2.at' q hq).2.1 hg.size, (hy2.at' q hq).2.2⟩, hy2.dep w w' (fun q hq => hg.block q (hy2.at' q hq).2.1 (hn q hq)) hy2.holds⟩
  refine ⟨⟨hg.os.trans hk.grow.os, hg.tape.trans hk.grow.tape, hg.output.trans hk.grow.output, Nat.le_trans hk.grow.size hg.size, fun q hq => ?_⟩, fun y hy => ?_, hk.nodup, fun y hy => ?_, ?_⟩
  · rw [hg.block q (Nat.lt_of_lt_of_le hq hk.grow.size) fun h => absurd (hfa.at' q h).1 (Nat.not_le_of_lt hq)]
    exact hk.grow.block q hq
  · have h1 := hk.has y hy
    exact ⟨h1.1, by rw [hg.block _ (heap_lt h1.2) fun h => (hfa.at' _ h).2.2 y hy rfl]; exact h1.2⟩
  · have hy' : y ∈ R1 ++ (kk, D', F') :: R2 := by rw [← e2]; exact hy
    rcases List.mem_append.1 hy' with h | h
    · exact other y (by rw [e1]; exact List.mem_append_left _ h) fun q hq => hap1.2.2 y h _ List.mem_cons_self q hq
    · rcases List.mem_cons.1 h with rfl | h
      · exact ⟨hd, fun q hq => ⟨(hfa.at' q (hD q hq)).1, Nat.lt_of_lt_of_le (hfa.at' q (hD q hq)).2.1 hg.size, (hfa.at' q (hD q hq)).2.2⟩, hF⟩
      · exact other y (by rw [e1]; exact List.mem_append_right _ (List.mem_cons_of_mem _ h)) fun q hq hD2 => hap2.1 y h q hD2 hq
  · show R'.Pairwise _
    rw [e2]
    refine List.pairwise_append.2 ⟨hap1.1, List.pairwise_cons.2 ⟨fun y hy q hq => hap2.1 y hy q (hD q hq), hap2.2⟩, fun y hy z hz q hq => ?_⟩
    rcases List.mem_cons.1 hz with rfl | hz
    · exact fun h => hap1.2.2 y hy _ List.mem_cons_self q hq (hD q h)
    · exact hap1.2.2 y hy z (List.mem_cons_of_mem _ hz) q hq
def IterF (b : Nat) (s : ByteArray) (p : Nat) : World → Prop := fun w => w.heap[b]? = some (.stringIter s p)
theorem iter_dep (b : Nat) (s : ByteArray) (p : Nat) : Depends (· = b) (IterF b s p) := fun w w' h hF => by
  unfold IterF at *
  rw [h b rfl]; exact hF
theorem run_newObj (w : World) (o : Obj) : (newObj o).run P w = .ok w.heap.size (w.alloc o) := rfl
theorem run_getIter {w : World} {b p : Nat} {s : ByteArray} (h : w.heap[b]? = some (.stringIter s p)) : (getObj b).run P w = .ok (.stringIter s p) w := by
  unfold getObj
  simp [Sem.run, h]
theorem run_setIter {w : World} {b p : Nat} {s : ByteArray} (o : Obj) (h : w.heap[b]? = some (.stringIter s p)) : (setObj b o).run P w = .ok () { w with heap := w.heap.setIfInBounds b o } := by
  unfold setObj
  simp [Sem.run, h]
theorem doL_range {t : TypeId} {x : Operand} {s : ByteArray} (id : Nat) (hu : P.underlying t = some .string) (hx : ev S x = some (.string s))
    (hw : wantedS ops S ⟨some d, .range t x, ty, pos, af, g⟩ = some true) (hn : Nat.blt d n = true)
    (next : ∀ b, DoL P n ⟨w0.w, (id, (· = b), IterF b s 0) :: w0.R⟩ ops Q rest ((d, .pointer (some ⟨b, 0, none⟩)) :: S) H) : DoL P n w0 ops Q (⟨some d, .range t x, ty, pos, af, g⟩ :: rest) S H := by
  intro a w fi k
  unfold wpList
  rw [wanted_fits fi hw, if_pos rfl]
  refine .inl ?_
  unfold Oper.wp
  have hrun : (execOp (evD S) ⟨some d, .range t x, ty, pos, af, g⟩).run P w = .ok (.value (.pointer (some ⟨w.heap.size, 0, none⟩))) (w.alloc (.stringIter s 0)) := by
    simp [execOp, evD_of hx, Instr.range, run_underlying hu, run_newObj]
  rw [exec_fits fi (by simp [knownB, Op.operands, hx]) rfl, hrun]
  simp only [Oper.upon]
  exact next w.heap.size _ _ (fi.put hn _) (k.tell ((Grow.refl w).alloc _) id (iter_dep _ _ _) (fun q hq => by subst hq; exact ⟨Nat.le_refl _, by show w.heap.size < (w.heap.push _).size; simp⟩) (by show (w.heap.push _)[w.heap.size]? = _; simp))
theorem setObj_growB {w : World} {b : Nat} {o : Obj} : GrowB (· = b) w { w with heap := w.heap.setIfInBounds b o } :=
  ⟨rfl, rfl, rfl, by simp, fun k _ hk => by simp [Array.getElem?_setIfInBounds_ne (Ne.symm hk)]⟩
theorem doL_nextS {x : Operand} {s : ByteArray} {b p : Nat} {c wd : Nat} (id : Nat) (hR : lookR w0.R id = some ((· = b), IterF b s p)) (hx : ev S x = some (.pointer (some ⟨b, 0, none⟩))) (hp : p < s.size) (hc : Utf8.decode s p = (c, wd))
    (hw : wantedS ops S ⟨some d, .next x true, ty, pos, af, g⟩ = some true) (hn : Nat.blt d n = true)
    (next : ∀ R', updR w0.R id (· = b) (IterF b s (p + wd)) = some R' → DoL P n ⟨w0.w, R'⟩ ops Q rest ((d, .tuple #[.bool true, .int .i64 (p : Int), .int .i32 c]) :: S) H) (hu : (updR w0.R id (· = b) (IterF b s (p + wd))).isSome = true) :
    DoL P n w0 ops Q (⟨some d, .next x true, ty, pos, af, g⟩ :: rest) S H := by
  intro a w fi k
  unfold wpList
  rw [wanted_fits fi hw, if_pos rfl]
  refine .inl ?_
  unfold Oper.wp
  obtain ⟨R', hR'⟩ := Option.isSome_iff_exists.1 hu
  have hF : w.heap[b]? = some (.stringIter s p) := holds_r hR _ _ k
  have hrun : (execOp (evD S) ⟨some d, .next x true, ty, pos, af, g⟩).run P w = .ok (.value (.tuple #[.bool true, .int .i64 (p : Int), .int .i32 c])) { w with heap := w.heap.setIfInBounds b (.stringIter s (p + wd)) } := by
    simp [execOp, evD_of hx, Instr.next, run_getIter hF, run_setIter _ hF, hp, hc, goInt]
  rw [exec_fits fi (by simp [knownB, Op.operands, hx]) rfl, hrun]
  simp only [Oper.upon]
  refine next R' hR' _ _ (fi.put hn _) (k.swap hR setObj_growB (fun _ h => h) (iter_dep _ _ _) ?_ hR')
  simp [IterF, heap_lt hF]
theorem opV_nextE {x : Operand} {s : ByteArray} {b p : Nat} {dd : Option Tmp} (id : Nat) (hR : lookR w0.R id = some ((· = b), IterF b s p)) (hx : ev S x = some (.pointer (some ⟨b, 0, none⟩))) (hp : ¬ p < s.size) :
    OpV P w0 S H ⟨dd, .next x true, ty, pos, af, g⟩ (.tuple #[.bool false]) :=
  opV_of (by simp [knownB, Op.operands, hx]) rfl fun w k => by
    have hF : w.heap[b]? = some (.stringIter s p) := holds_r hR _ _ k
    simp [execOp, evD_of hx, Instr.next, run_getIter hF, hp]
end
end Go.Sx
namespace Go.Sx
open Go.RowKit
theorem rows_len {sz : Nat} : ∀ (rows : List (List Value)), (∀ r ∈ rows, r.length = sz) → rows.flatten.length = rows.length * sz
  | [], _ => by simp
  | r :: rows, h => by
    rw [List.flatten_cons, List.length_append, h r List.mem_cons_self, rows_len rows fun x hx => h x (List.mem_cons_of_mem _ hx), List.length_cons, Nat.add_mul]
    omega
theorem rows_set {sz : Nat} : ∀ (rows : List (List Value)) (j : Nat) (vs : List Value), (∀ r ∈ rows, r.length = sz) → j < rows.length → vs.length = sz →
    (rows.set j vs).flatten = rows.flatten.take (j * sz) ++ vs ++ rows.flatten.drop (j * sz + sz)
  | [], j, vs, _, hj, _ => by simp at hj
  | r :: rows, 0, vs, h, _, hv => by
    have hr := h r List.mem_cons_self
    simp only [List.set_cons_zero, List.flatten_cons, Nat.zero_mul, List.take_zero, List.nil_append, Nat.zero_add]
    rw [← hr, List.drop_left]
  | r :: rows, j + 1, vs, h, hj, hv => by
    have hr := h r List.mem_cons_self
    have ih := rows_set rows j vs (fun x hx => h x (List.mem_cons_of_mem _ hx)) (by simpa using hj) hv
    simp only [List.set_cons_succ, List.flatten_cons]
    rw [ih, show (j + 1) * sz = r.length + j * sz by rw [Nat.add_mul, hr]; omega, List.take_length_add_append, Nat.add_assoc, List.drop_length_add_append]
    simp
def RowsF (b sz e : Nat) (rows : List (List Value)) : World → Prop := fun w => (∀ r ∈ rows, r.length = sz) ∧ w.heap[b]? = some (.cells rows.flatten.toArray e)
theorem rowsF_dep (b sz e : Nat) (rows : List (List Value)) : Depends (· = b) (RowsF b sz e rows) := fun w w' h hF => by
  unfold RowsF at *
  rw [h b rfl]; exact hF
theorem rowsF_slc {b sz e : Nat} {rows : List (List Value)} (w : World) (h : RowsF b sz e rows w) : SlcIs sz (some ⟨b, 0, none⟩) rows w := fun j r hj =>
  ⟨h.1 r (List.mem_of_getElem? hj), b, 0, rfl, heap_lt h.2, fun k hk => by
    rw [cell_at h.2, Nat.zero_add]
    exact flat_get rows h.1 j r hj k hk⟩
section
variable {P : Program} {n : Nat} {w0 : Base} {ops : Array Oper} {Q : Exit → Act → World → Prop} {S : Slots} {H : Heap}
variable {ty : TypeId} {pos : String} {af : Array Edge} {g : Option (Nat × Bool)} {rest : List Oper}
theorem doL_storeRow {t : TypeId} {x y : Operand} {b e sz j : Nat} {rows : List (List Value)} {vs : List Value} (id : Nat) (hT : tyB P t true sz = true) (hR : lookR w0.R id = some ((· = b), RowsF b sz e rows))
    (hx : ev S x = some (pAt (some ⟨b, 0, none⟩) (j * sz))) (hy : ev S y = some (.agg vs.toArray)) (hj : j < rows.length) (hv : Nat.beq vs.length sz = true) (h1 : vs.all Value.oneCell' = true)
    (hw : wantedS ops S ⟨none, .store t x y, ty, pos, af, g⟩ = some true) (hu : (updR w0.R id (· = b) (RowsF b sz e (rows.set j vs))).isSome = true)
    (next : ∀ R', updR w0.R id (· = b) (RowsF b sz e (rows.set j vs)) = some R' → DoL P n ⟨w0.w, R'⟩ ops Q rest S H) :
    DoL P n w0 ops Q (⟨none, .store t x y, ty, pos, af, g⟩ :: rest) S H := by
  intro a w f k
  unfold wpList
  rw [wanted_fits f hw, if_pos rfl]
  refine .inl ?_
  obtain ⟨R', hR'⟩ := Option.isSome_iff_exists.1 hu
  have hF : RowsF b sz e rows w := holds_r hR _ _ k
  have hvs := Nat.eq_of_beq_eq_true hv
  have hlen : j * sz + sz ≤ rows.flatten.length := by
    rw [rows_len rows hF.1]
    have := Nat.mul_le_mul_right sz (show j + 1 ≤ rows.length from hj)
    rw [Nat.add_mul] at this
    omega
  have hst := run_storeCells_at P b (0 + j * sz) e vs 0 rows.flatten.toArray w hF.2 (by simp; simp at hlen; omega) (fun u hu => List.all_eq_true.1 h1 u hu)
  have hx' : ev S x = some (.pointer (some ⟨b, 0 + j * sz, none⟩)) := hx
  have hrun : (execOp a.eval ⟨none, .store t x y, ty, pos, af, g⟩).run P w = .ok .skip (w.setRow b (rows.set j vs).flatten.toArray) := by
    rw [rows_set rows j vs hF.1 hj hvs]
    simp only [Nat.add_zero, Nat.zero_add, hvs] at hst
    have hx2 : ev S x = some (.pointer (some ⟨b, j * sz, none⟩)) := by rw [hx', Nat.zero_add]
    have hc : (Value.agg vs.toArray).cells = vs.toArray := rfl
    simp [execOp, f.ev hx2, f.ev hy, Instr.storeAt, Instr.sureAddr, storeVar, tyB_size hT, hc, hvs, hst]
  unfold Oper.wp
  rw [hrun]
  refine next R' hR' _ _ f (k.swap hR (GrowB.set b w _) (fun _ h => h) (rowsF_dep _ _ _ _) ⟨fun r hr => ?_, setRow_heap w b _ _ e _ hF.2⟩ hR')
  rcases List.mem_or_eq_of_mem_set hr with h | h
  · exact hF.1 r h
  · rw [h]; exact hvs
end
end Go.Sx
namespace Go.Sx
open Go.RowKit
theorem made_rows {zs : List Value} {sz m : Nat} (hz : zs.length = sz) (h0 : 0 < sz) : madeCells zs.toArray (m * sz) = (List.replicate m zs).flatten.toArray := by
  have hall : ∀ r ∈ List.replicate m zs, r.length = sz := fun r hr => by rw [List.eq_of_mem_replicate hr, hz]
  have hlen := rows_len (sz := sz) (List.replicate m zs) hall
  rw [List.length_replicate] at hlen
  apply Array.ext
  · rw [size_madeCells]; simp only [List.size_toArray]; exact hlen.symm
  · intro k h1 h2
    rw [size_madeCells] at h1
    have hd : k / sz < m := (Nat.div_lt_iff_lt_mul h0).2 h1
    have hm := Nat.mod_lt k h0
    have hg := flat_get (sz := sz) (List.replicate m zs) hall (k / sz) zs (by simp [hd]) (k % sz) hm
    rw [show k / sz * sz + k % sz = k by rw [Nat.mul_comm]; exact Nat.div_add_mod k sz] at hg
    have e1 : (madeCells zs.toArray (m * sz))[k]? = zs[k % sz]? := by
      simp only [madeCells, Array.getElem?_map, List.size_toArray, hz]
      rw [Array.getElem?_range, if_pos h1]
      simp [hz, hm]
    have e2 : (List.replicate m zs).flatten.toArray[k]? = zs[k % sz]? := by rw [List.getElem?_toArray]; exact hg
    have := e1.trans e2.symm
    rw [Array.getElem?_eq_getElem (by rw [size_madeCells]; exact h1), Array.getElem?_eq_getElem h2] at this
    exact Option.some.inj this
def makeB (P : Program) (t e sz bytes : Nat) (zs : List Value) : Prop := P.underlying t = some (.slice e) ∧ ∃ i z, P.info? e = some i ∧ i.zero = some z ∧ i.size = sz ∧ i.bytes = bytes ∧ z.cells.toList = zs ∧ zs.length = sz ∧ 0 < sz
section
variable {P : Program} {n : Nat} {w0 : Base} {ops : Array Oper} {Q : Exit → Act → World → Prop} {S : Slots} {H : Heap}
variable {d : Nat} {ty : TypeId} {pos : String} {af : Array Edge} {g : Option (Nat × Bool)} {rest : List Oper}
theorem makeB_of {t e sz bytes : Nat} {z : Value} (hA : appB P t e sz bytes = true) (hz : zeroIs P e z) : makeB P t e sz bytes z.cells.toList := by
  unfold appB at hA
  unfold zeroIs at hz
  cases hu : P.underlying t with
  | none => simp [hu] at hA
  | some ds =>
    cases ds <;> simp [hu] at hA
    rename_i e'
    cases hi : P.info? e with
    | none => simp [hi] at hA
    | some i =>
      simp only [hi] at hA hz
      simp at hz
      simp only [hz, Bool.and_eq_true, beq_iff_eq] at hA
      obtain ⟨⟨⟨⟨rfl, h2⟩, h3⟩, h4⟩, h5⟩ := hA
      exact ⟨hu, i, z, hi, hz, h2, h3, rfl, by simpa using h5, by simpa using h4⟩
theorem doL_make {t e sz bytes m : Nat} {zs : List Value} {x : Operand} (id : Nat) (hB : makeB P t e sz bytes zs) (hx : ev S x = some (.int .i64 (m : Int))) (hm : m * bytes ≤ 281474976710656) (h63 : m ≤ 1000000)
    (hw : wantedS ops S ⟨some d, .makeSlice t x x, ty, pos, af, g⟩ = some true) (hn : Nat.blt d n = true)
    (next : ∀ b, DoL P n ⟨w0.w, (id, (· = b), RowsF b sz e (List.replicate m zs)) :: w0.R⟩ ops Q rest ((d, .slice (some ⟨b, 0, none⟩) m m) :: S) H) : DoL P n w0 ops Q (⟨some d, .makeSlice t x x, ty, pos, af, g⟩ :: rest) S H := by
  intro a w fi k
  unfold wpList
  rw [wanted_fits fi hw, if_pos rfl]
  refine .inl ?_
  unfold Oper.wp
  obtain ⟨ht, i, z, hi, hz, rfl, rfl, rfl, hlen, h0⟩ := hB
  have hrun : (execOp (evD S) ⟨some d, .makeSlice t x x, ty, pos, af, g⟩).run P w = .ok (.value (.slice (some ⟨w.heap.size, 0, none⟩) m m)) (w.alloc (.cells (List.replicate m z.cells.toList).flatten.toArray e)) := by
    have := run_make (P := P) w t e i z ht hi hz .i64 .i64 (m : Int) (m : Int) (by omega) (by omega) (by rw [Int.mul_comm, ← Int.natCast_mul]; exact Int.ofNat_le.2 hm) (by omega)
    simp only [Int.toNat_natCast] at this
    rw [show z.cells = z.cells.toList.toArray from rfl, made_rows hlen h0] at this
    simp [execOp, evD_of hx, this]
  rw [exec_fits fi (by simp [knownB, Op.operands, hx]) rfl, hrun]
  simp only [Oper.upon]
  refine next w.heap.size _ _ (fi.put hn _) (k.tell ((Grow.refl w).alloc _) id (rowsF_dep _ _ _ _) (fun q hq => by subst hq; exact ⟨Nat.le_refl _, by show w.heap.size < (w.heap.push _).size; simp⟩) ⟨fun r hr => ?_, by show (w.heap.push _)[w.heap.size]? = _; simp⟩)
  rw [List.eq_of_mem_replicate hr]; exact hlen
end
end Go.Sx
namespace Go.Sx
def pc (p : Po) : List Value := [.int .i64 p.r.x.x.lo, .int .i64 p.r.x.x.hi, .int .i64 p.r.x.y.lo, .int .i64 p.r.x.y.hi, .int .i64 p.r.x.z.lo, .int .i64 p.r.x.z.hi, .int .i64 p.r.y.x.lo, .int .i64 p.r.y.x.hi, .int .i64 p.r.y.y.lo, .int .i64 p.r.y.y.hi, .int .i64 p.r.y.z.lo, .int .i64 p.r.y.z.hi, .int .i64 p.r.z.x.lo, .int .i64 p.r.z.x.hi, .int .i64 p.r.z.y.lo, .int .i64 p.r.z.y.hi, .int .i64 p.r.z.z.lo, .int .i64 p.r.z.z.hi, .int .i64 p.t.x.lo, .int .i64 p.t.x.hi, .int .i64 p.t.y.lo, .int .i64 p.t.y.hi, .int .i64 p.t.z.lo, .int .i64 p.t.z.hi]
def zRow : List Value := List.replicate 24 (.int .i64 0)
def lkP (ps : List Po) (j : J) (a : Iv) : Po := if j.parent = -1 then jPose j.kind j.off a else Po.mul (ps.getD j.parent.toNat Po.rest) (jPose j.kind j.off a)
def lks (js : List J) (bx : List Iv) : Nat → List Po
  | 0 => []
  | k + 1 => match js[k]?, bx[k]? with
    | some j, some a => lks js bx k ++ [lkP (lks js bx k) j a]
    | _, _ => lks js bx k
theorem lks_succ {js : List J} {bx : List Iv} {k : Nat} {j : J} {a : Iv} (h1 : js[k]? = some j) (h2 : bx[k]? = some a) : lks js bx (k + 1) = lks js bx k ++ [lkP (lks js bx k) j a] := by
  simp only [lks, h1, h2]
def lkR (ps : List Po) (m : Nat) : List (List Value) := ps.map pc ++ List.replicate m zRow
theorem lkR_set {ps : List Po} {m : Nat} (v : List Value) : (lkR ps (m + 1)).set ps.length v = ps.map pc ++ v :: List.replicate m zRow := by
  unfold lkR
  rw [List.set_append_right _ _ (by simp)]
  simp [List.replicate_succ]
theorem lkR_set2 {ps : List Po} {m : Nat} (u v : List Value) : (ps.map pc ++ u :: List.replicate m zRow).set ps.length v = ps.map pc ++ v :: List.replicate m zRow := by
  rw [List.set_append_right _ _ (by simp)]
  simp
theorem lkR_done {ps : List Po} {m : Nat} (p : Po) : ps.map pc ++ pc p :: List.replicate m zRow = lkR (ps ++ [p]) m := by
  unfold lkR
  simp
theorem lkR_at {ps : List Po} {m i : Nat} {u : List Value} (h : i < ps.length) : (ps.map pc ++ u :: List.replicate m zRow)[i]? = some (pc (ps.getD i Po.rest)) := by
  rw [List.getElem?_append_left (by simpa using h), List.getElem?_map]
  simp [List.getD_eq_getElem?_getD, h]
theorem lkR_me {ps : List Po} {m : Nat} {u : List Value} : (ps.map pc ++ u :: List.replicate m zRow)[ps.length]? = some u := by
  rw [List.getElem?_append_right (by simp)]
  simp
end Go.Sx
namespace Go.Sx
open Go.RowKit
section
variable {P : Program} {n : Nat} {w0 : Base} {ops : Array Oper} {Q : Exit → Act → World → Prop} {S : Slots} {H : Heap}
variable {d : Nat} {ty : TypeId} {pos : String} {af : Array Edge} {g : Option (Nat × Bool)} {rest : List Oper}
variable {X Y : Type} {Φ : X → Prop} {V : X → Value} {F : X → World → Prop} {Φ2 : Y → Prop} {V2 : Y → Value} {F2 : Y → World → Prop} {G : Ghosts} {tl : List Oper} {Fw : World → Prop}
theorem tail_tell2 {w1 : Base} {H0 : Heap} {d2 : Nat} (id : Nat) (hsz : w1.w.heap.size = w0.w.heap.size) (hR : w1.R = w0.R) (hA : H0.map (·.2.1) = H.map (·.2.1))
    (h : ∀ x y D, Φ x → Φ2 y → Tail P n ⟨w0.w, (id, D, fun w => F x w ∧ F2 y w) :: w0.R⟩ ops Q tl Fw ((d, V x) :: (d2, V2 y) :: S) H []) :
    Tail P n w0 ops Q tl Fw S H ((d, false, TellT w1 H0 Φ V F) :: (d2, false, TellT w1 H0 Φ2 V2 F2) :: G) := fun a w f k hx _ _ hF => by
  obtain ⟨u, hu, x, hxx, hux, D, q1, q2, q3⟩ := hx _ List.mem_cons_self
  obtain ⟨u2, hu2, y, hyy, huy, D2, p1, p2, p3⟩ := hx _ (List.mem_cons_of_mem _ List.mem_cons_self)
  subst hux
  subst huy
  have cv : ∀ q, (w1.w.heap.size ≤ q ∧ q < w.heap.size ∧ (∀ y ∈ H0, y.2.1 ≠ q) ∧ ∀ y ∈ w1.R, ¬ y.2.1 q) → (w0.w.heap.size ≤ q ∧ q < w.heap.size ∧ (∀ y ∈ H, y.2.1 ≠ q) ∧ ∀ y ∈ w0.R, ¬ y.2.1 q) := fun q hq => ⟨by rw [← hsz]; exact hq.1, hq.2.1, fun y hy e => by
    have hm : y.2.1 ∈ H.map (·.2.1) := List.mem_map.2 ⟨y, hy, rfl⟩
    rw [← hA] at hm
    obtain ⟨z, hz, hze⟩ := List.mem_map.1 hm
    exact hq.2.2.1 z hz (hze.trans e), fun y hy hd => hq.2.2.2 y (by rw [hR]; exact hy) hd⟩
  exact h x y (fun q => D q ∨ D2 q) hxx hyy a w (fits_more (fits_more f hu2) hu) (knows_told k id (fun w w' hq ⟨a, c⟩ => ⟨q1 w w' (fun q hd => hq q (.inl hd)) a, p1 w w' (fun q hd => hq q (.inr hd)) c⟩) (fun q hq => hq.elim (fun h => cv q (q2 q h)) (fun h => cv q (p2 q h))) ⟨q3, p3⟩) (fun y hy => by cases hy) (fun y hy => by cases hy) (fun y hy => by cases hy) hF
end
end Go.Sx
namespace Go.Sx
theorem lks_len {js : List J} {bx : List Iv} : ∀ n, n ≤ js.length → n ≤ bx.length → (lks js bx n).length = n
  | 0, _, _ => rfl
  | n + 1, h1, h2 => by
    have e1 : js[n]? = some js[n] := List.getElem?_eq_getElem (by omega)
    have e2 : bx[n]? = some bx[n] := List.getElem?_eq_getElem (by omega)
    rw [lks_succ e1 e2, List.length_append, lks_len n (by omega) (by omega)]
    rfl
end Go.Sx
namespace Go.Sx
theorem sq_le {x y : Int} (h0 : 0 ≤ x) (h : x ≤ y) : x * x ≤ y * y := Int.mul_le_mul h h h0 (by omega)
theorem sq_nonneg (x : Int) : 0 ≤ x * x := by
  rcases Int.le_total 0 x with h | h
  · exact Int.mul_nonneg h h
  · have := Int.mul_nonneg (a := -x) (b := -x) (by omega) (by omega)
    rwa [Int.neg_mul_neg] at this
theorem w_norm : ∀ r : Nat, r ≤ 16384 → WC r * WC r + WT r * WT r ≤ (340282366920938463463374607431768211456 : Int) * (340282366920938463463374607431768211456 : Int)
  | 0, _ => by rw [w0.1, w0.2]; decide
  | r + 1, h => by
    have ih := w_norm r (by omega)
    obtain ⟨p, q, hp, hq, s1, s2⟩ := wstep (r := r) (by omega)
    have b := wbnd (r := r + 1) h
    have q1 := sq_le (x := (340282366920938463463374607431768211456 : Int) * WC (r + 1)) (y := WC r * (340282365357037221779282487371359009126 : Int) - WT r * (32624163282081701561065576601652201 : Int)) (by omega) (by omega)
    have q2 := sq_le (x := (340282366920938463463374607431768211456 : Int) * WT (r + 1)) (y := WC r * (32624163282081701561065576601652201 : Int) + WT r * (340282365357037221779282487371359009126 : Int)) (by omega) (by omega)
    have e1 : (340282366920938463463374607431768211456 : Int) * WC (r + 1) * ((340282366920938463463374607431768211456 : Int) * WC (r + 1)) = (340282366920938463463374607431768211456 : Int) * (340282366920938463463374607431768211456 : Int) * (WC (r + 1) * WC (r + 1)) := by grind
    have e2 : (340282366920938463463374607431768211456 : Int) * WT (r + 1) * ((340282366920938463463374607431768211456 : Int) * WT (r + 1)) = (340282366920938463463374607431768211456 : Int) * (340282366920938463463374607431768211456 : Int) * (WT (r + 1) * WT (r + 1)) := by grind
    have e3 : (WC r * (340282365357037221779282487371359009126 : Int) - WT r * (32624163282081701561065576601652201 : Int)) * (WC r * (340282365357037221779282487371359009126 : Int) - WT r * (32624163282081701561065576601652201 : Int)) + (WC r * (32624163282081701561065576601652201 : Int) + WT r * (340282365357037221779282487371359009126 : Int)) * (WC r * (32624163282081701561065576601652201 : Int) + WT r * (340282365357037221779282487371359009126 : Int)) = ((340282365357037221779282487371359009126 : Int) * (340282365357037221779282487371359009126 : Int) + (32624163282081701561065576601652201 : Int) * (32624163282081701561065576601652201 : Int)) * (WC r * WC r + WT r * WT r) := by grind
    rw [e1] at q1
    rw [e2] at q2
    generalize (WC r * (340282365357037221779282487371359009126 : Int) - WT r * (32624163282081701561065576601652201 : Int)) * (WC r * (340282365357037221779282487371359009126 : Int) - WT r * (32624163282081701561065576601652201 : Int)) = a1 at *
    generalize (WC r * (32624163282081701561065576601652201 : Int) + WT r * (340282365357037221779282487371359009126 : Int)) * (WC r * (32624163282081701561065576601652201 : Int) + WT r * (340282365357037221779282487371359009126 : Int)) = a2 at *
    generalize WC (r + 1) * WC (r + 1) = c1 at *
    generalize WT (r + 1) * WT (r + 1) = c2 at *
    generalize WC r * WC r + WT r * WT r = d at *
    clear s1 s2 e1 e2
    omega
theorem P_norm (n : Int) : PC n * PC n + PS n * PS n ≤ (340282366920938463463374607431768211456 : Int) * (340282366920938463463374607431768211456 : Int) := by
  refine near_q (fun n => PC n * PC n + PS n * PS n ≤ (340282366920938463463374607431768211456 : Int) * (340282366920938463463374607431768211456 : Int)) (fun n h => ?_) (fun a b e h => ?_) ?_
  · rw [PC_next, PS_next, Int.neg_mul_neg]; omega
  · rw [← PS_per e, ← PC_per e]; exact h
  · have h := w_norm (n % 16384).toNat (by omega)
    have e := PS_base (r := (n % 16384).toNat) (by omega)
    rw [show ((n % 16384).toNat : Int) = n % 16384 by omega] at e
    rw [e.1, e.2]; exact h
theorem P_norm_lo (n : Int) : (340282366920938463463374607431768211456 : Int) * (340282366920938463463374607431768211456 : Int) - 2 * (1099511627776 : Int) * (340282366920938463463374607431768211456 : Int) ≤ PC n * PC n + PS n * PS n := by
  have h := (near n (-n)).2
  unfold GG at h
  have e : PC (n + -n) = (340282366920938463463374607431768211456 : Int) := by rw [show n + -n = ((0 : Nat) : Int) by omega, (PS_base (r := 0) (by omega)).2, w0.1]
  rw [e] at h
  have u := P_norm (-n)
  have s1 := sq_nonneg (PC n - PC (-n))
  have s2 := sq_nonneg (PS n + PS (-n))
  have i1 : (PC n - PC (-n)) * (PC n - PC (-n)) = PC n * PC n + PC (-n) * PC (-n) - 2 * (PC n * PC (-n)) := by grind
  have i2 : (PS n + PS (-n)) * (PS n + PS (-n)) = PS n * PS n + PS (-n) * PS (-n) + 2 * (PS n * PS (-n)) := by grind
  rw [i1] at s1
  rw [i2] at s2
  omega
end Go.Sx
namespace Go.Sx
structure R3 where
  x : Int
  y : Int
  z : Int
structure RM where
  x : R3
  y : R3
  z : R3
def R3.dot (a b : R3) : Int := a.x * b.x + a.y * b.y + a.z * b.z
def RM.tr (m : RM) : RM := ⟨⟨m.x.x, m.y.x, m.z.x⟩, ⟨m.x.y, m.y.y, m.z.y⟩, ⟨m.x.z, m.y.z, m.z.z⟩⟩
def RM.app (m : RM) (v : R3) : R3 := ⟨R3.dot m.x v, R3.dot m.y v, R3.dot m.z v⟩
def RM.mul (a b : RM) : RM := ⟨b.tr.app a.x, b.tr.app a.y, b.tr.app a.z⟩
structure VIn (v : V3) (m : Int) (r : R3) : Prop where
  x : In v.x m r.x
  y : In v.y m r.y
  z : In v.z m r.z
structure MIn (v : M3) (m : Int) (r : RM) : Prop where
  x : VIn v.x m r.x
  y : VIn v.y m r.y
  z : VIn v.z m r.z
structure VOk (v : V3) : Prop where
  x : Ok v.x
  y : Ok v.y
  z : Ok v.z
structure MOk (v : M3) : Prop where
  x : VOk v.x
  y : VOk v.y
  z : VOk v.z
structure RB (B : Int) (r : R3) : Prop where
  x : -B ≤ r.x ∧ r.x ≤ B
  y : -B ≤ r.y ∧ r.y ≤ B
  z : -B ≤ r.z ∧ r.z ≤ B
structure RMB (B : Int) (r : RM) : Prop where
  x : RB B r.x
  y : RB B r.y
  z : RB B r.z
theorem MIn.tr {v : M3} {m : Int} {r : RM} (h : MIn v m r) : MIn v.tr m r.tr := ⟨⟨h.x.x, h.y.x, h.z.x⟩, ⟨h.x.y, h.y.y, h.z.y⟩, ⟨h.x.z, h.y.z, h.z.z⟩⟩
theorem MOk.tr {v : M3} (h : MOk v) : MOk v.tr := ⟨⟨h.x.x, h.y.x, h.z.x⟩, ⟨h.x.y, h.y.y, h.z.y⟩, ⟨h.x.z, h.y.z, h.z.z⟩⟩
theorem RMB.tr {B : Int} {v : RM} (h : RMB B v) : RMB B v.tr := ⟨⟨h.x.x, h.y.x, h.z.x⟩, ⟨h.x.y, h.y.y, h.z.y⟩, ⟨h.x.z, h.y.z, h.z.z⟩⟩
theorem dot_Ok (a b : V3) : Ok (V3.dot a b) := add_Ok _ _
theorem dot_In {a b : V3} {m k B C : Int} {x y : R3} (va : VOk a) (vb : VOk b) (hm : 0 ≤ m) (hk : 0 ≤ k) (hx : VIn a m x) (hy : VIn b k y) (bx : RB (B * m) x) (by' : RB (C * k) y) (hB : 3 * (B * C) ≤ 140737488355328) :
    In (V3.dot a b) (65536 * (m * k)) (R3.dot x y) := by
  have hmk : 0 ≤ m * k := Int.mul_nonneg hm hk
  have p1 := abs_mul bx.x by'.x
  have p2 := abs_mul bx.y by'.y
  have p3 := abs_mul bx.z by'.z
  have e : B * m * (C * k) = B * C * (m * k) := by grind
  rw [e] at p1 p2 p3
  have h3 : 3 * (B * C) * (m * k) ≤ 140737488355328 * (m * k) := Int.mul_le_mul_of_nonneg_right hB hmk
  rw [Int.mul_assoc] at h3
  have pos : 0 ≤ B * C * (m * k) := by omega
  unfold V3.dot R3.dot
  have i1 := mul_In va.x vb.x hm hk hx.x hy.x (by omega) (by omega)
  have i2 := mul_In va.y vb.y hm hk hx.y hy.y (by omega) (by omega)
  have i3 := mul_In va.z vb.z hm hk hx.z hy.z (by omega) (by omega)
  have i4 := add_In (mul_Ok _ _) (mul_Ok _ _) (by omega) i1 i2 (by omega) (by omega)
  exact add_In (add_Ok _ _) (mul_Ok _ _) (by omega) i4 i3 (by omega) (by omega)
theorem lim_In {a : Iv} {m x : Int} (hm : 0 ≤ m) (h : In a m x) (h1 : -65536 * m ≤ x) (h2 : x ≤ 65536 * m) : In (limV a) m x := by
  have q1 := h.lo
  have q2 := h.hi
  unfold limV limI
  constructor
  · simp only
    rcases Int.le_total a.lo (-65536) with g | g
    · rw [show min (max a.lo (-65536)) 65536 = -65536 by omega]; exact h1
    · exact Int.le_trans (Int.mul_le_mul_of_nonneg_right (by omega) hm) q1
  · simp only
    rcases Int.le_total 65536 a.hi with g | g
    · rw [show min (max a.hi (-65536)) 65536 = 65536 by omega]; exact h2
    · exact Int.le_trans q2 (Int.mul_le_mul_of_nonneg_right (by omega) hm)
theorem lim_Ok {a : Iv} (h : Ok a) : Ok (limV a) := by
  unfold Ok limV limI at *; simp only; omega
theorem mul_MOk (a b : M3) : MOk (M3.mul a b) :=
  ⟨⟨lim_Ok (dot_Ok _ _), lim_Ok (dot_Ok _ _), lim_Ok (dot_Ok _ _)⟩, ⟨lim_Ok (dot_Ok _ _), lim_Ok (dot_Ok _ _), lim_Ok (dot_Ok _ _)⟩, ⟨lim_Ok (dot_Ok _ _), lim_Ok (dot_Ok _ _), lim_Ok (dot_Ok _ _)⟩⟩
theorem app_In {a : M3} {v : V3} {m k B C : Int} {x : RM} {y : R3} (va : MOk a) (vb : VOk v) (hm : 0 ≤ m) (hk : 0 ≤ k) (hx : MIn a m x) (hy : VIn v k y) (bx : RMB (B * m) x) (by' : RB (C * k) y) (hB : 3 * (B * C) ≤ 140737488355328) :
    VIn (M3.apply a v) (65536 * (m * k)) (RM.app x y) :=
  ⟨dot_In va.x vb hm hk hx.x hy bx.x by' hB, dot_In va.y vb hm hk hx.y hy bx.y by' hB, dot_In va.z vb hm hk hx.z hy bx.z by' hB⟩
theorem mul_MIn {a b : M3} {m k B C : Int} {x y : RM} (va : MOk a) (vb : MOk b) (hm : 0 ≤ m) (hk : 0 ≤ k) (hx : MIn a m x) (hy : MIn b k y) (bx : RMB (B * m) x) (by' : RMB (C * k) y) (hB : 3 * (B * C) ≤ 140737488355328)
    (hl : RMB (65536 * (65536 * (m * k))) (RM.mul x y)) : MIn (M3.mul a b) (65536 * (m * k)) (RM.mul x y) := by
  have hmk : 0 ≤ 65536 * (m * k) := Int.mul_nonneg (by decide) (Int.mul_nonneg hm hk)
  have row : ∀ {r : V3} {u : R3}, VOk r → VIn r m u → RB (B * m) u → RB (65536 * (65536 * (m * k))) (y.tr.app u) → VIn (M3.row r b) (65536 * (m * k)) (y.tr.app u) := fun {r u} hr hi hb hl => by
    have s : ∀ {c : V3} {d : R3}, R3.dot d u = R3.dot u d := fun {_ d} => by unfold R3.dot; grind
    have t := hy.tr
    have g := by'.tr
    have o := vb.tr
    refine ⟨lim_In hmk ?_ (by have := hl.x; omega) (by have := hl.x; omega), lim_In hmk ?_ (by have := hl.y; omega) (by have := hl.y; omega), lim_In hmk ?_ (by have := hl.z; omega) (by have := hl.z; omega)⟩
    · show In (V3.dot r b.tr.x) _ (R3.dot y.tr.x u)
      rw [s (c := r)]; exact dot_In hr o.x hm hk hi t.x hb g.x hB
    · show In (V3.dot r b.tr.y) _ (R3.dot y.tr.y u)
      rw [s (c := r)]; exact dot_In hr o.y hm hk hi t.y hb g.y hB
    · show In (V3.dot r b.tr.z) _ (R3.dot y.tr.z u)
      rw [s (c := r)]; exact dot_In hr o.z hm hk hi t.z hb g.z hB
  exact ⟨row va.x hx.x bx.x hl.x, row va.y hx.y bx.y hl.y, row va.z hx.z bx.z hl.z⟩
theorem sinOver_In {a : Iv} {n : Int} (v : Ok a) (hn : a.lo ≤ n ∧ n ≤ a.hi) : In (sinOverI a) (5192296858534827628530496329220096 : Int) (PS n) := by
  have h := ov_has (c := 0) v hn
  rw [Int.add_zero] at h
  rw [sinOver_ov]
  have s := sin_In n
  exact ⟨Int.le_trans (Int.mul_le_mul_of_nonneg_right h.1 (by decide)) s.lo, Int.le_trans s.hi (Int.mul_le_mul_of_nonneg_right h.2 (by decide))⟩
theorem cosOver_In {a : Iv} {n : Int} (v : Ok a) (hn : a.lo ≤ n ∧ n ≤ a.hi) : In (cosOverI a) (5192296858534827628530496329220096 : Int) (PC n) := by
  have h := ov_has (c := 16384) v hn
  rw [cosOver_ov]
  have s := sin_In (n + 16384)
  exact ⟨Int.le_trans (Int.mul_le_mul_of_nonneg_right h.1 (by decide)) s.lo, Int.le_trans s.hi (Int.mul_le_mul_of_nonneg_right h.2 (by decide))⟩
theorem sinOver_b {a : Iv} (v : Ok a) : -65536 ≤ (sinOverI a).lo ∧ (sinOverI a).lo ≤ (sinOverI a).hi ∧ (sinOverI a).hi ≤ 65536 := by rw [sinOver_ov]; exact ov_bnd v
theorem cosOver_b {a : Iv} (v : Ok a) : -65536 ≤ (cosOverI a).lo ∧ (cosOverI a).lo ≤ (cosOverI a).hi ∧ (cosOverI a).hi ≤ 65536 := by rw [cosOver_ov]; exact ov_bnd v
theorem neg_In {a : Iv} {m x : Int} (v : Ok a) (h : In a m x) : In (Iv.neg a) m (-x) := by
  have q1 := h.lo
  have q2 := h.hi
  rw [neg_of v]
  constructor <;> simp only [Int.neg_mul] <;> omega
theorem neg_Ok {a : Iv} (v : Ok a) : Ok (Iv.neg a) := by rw [neg_of v]; unfold Ok at *; simp only; omega
def TR (axis n : Int) : RM := if axis = 0 then ⟨⟨(340282366920938463463374607431768211456 : Int), 0, 0⟩, ⟨0, PC n, -PS n⟩, ⟨0, PS n, PC n⟩⟩ else if axis = 1 then ⟨⟨PC n, 0, PS n⟩, ⟨0, (340282366920938463463374607431768211456 : Int), 0⟩, ⟨-PS n, 0, PC n⟩⟩ else ⟨⟨PC n, -PS n, 0⟩, ⟨PS n, PC n, 0⟩, ⟨0, 0, (340282366920938463463374607431768211456 : Int)⟩⟩
theorem one_In : In iv1 (5192296858534827628530496329220096 : Int) (340282366920938463463374607431768211456 : Int) := ⟨by decide, by decide⟩
theorem zero_In (m : Int) : In iv0 m 0 := ⟨by simp [iv0], by simp [iv0]⟩
theorem one_Ok : Ok iv1 := by unfold Ok; decide
theorem zero_Ok : Ok iv0 := by unfold Ok; decide
theorem turn_at {axis : Int} {a : Iv} (v : Ok a) (h : axis = 0 ∨ axis = 1 ∨ axis = 2) : M3.turn axis a = if axis = 0 then ⟨⟨iv1, iv0, iv0⟩, ⟨iv0, cosOverI a, Iv.neg (sinOverI a)⟩, ⟨iv0, sinOverI a, cosOverI a⟩⟩ else if axis = 1 then ⟨⟨cosOverI a, iv0, sinOverI a⟩, ⟨iv0, iv1, iv0⟩, ⟨Iv.neg (sinOverI a), iv0, cosOverI a⟩⟩ else ⟨⟨cosOverI a, Iv.neg (sinOverI a), iv0⟩, ⟨sinOverI a, cosOverI a, iv0⟩, ⟨iv0, iv0, iv1⟩⟩ := by
  unfold M3.turn
  rw [valid_of v]
  rcases h with h | h | h <;> subst h <;> rfl
theorem turn_In {axis n : Int} {a : Iv} (v : Ok a) (hn : a.lo ≤ n ∧ n ≤ a.hi) (h : axis = 0 ∨ axis = 1 ∨ axis = 2) : MIn (M3.turn axis a) (5192296858534827628530496329220096 : Int) (TR axis n) := by
  have c := cosOver_In v hn
  have s := sinOver_In v hn
  have t := neg_In (by have := sinOver_b v; unfold Ok; omega) s
  have z := zero_In (5192296858534827628530496329220096 : Int)
  rw [turn_at v h]
  unfold TR
  rcases h with h | h | h <;> subst h
  · exact ⟨⟨one_In, z, z⟩, ⟨z, c, t⟩, ⟨z, s, c⟩⟩
  · exact ⟨⟨c, z, s⟩, ⟨z, one_In, z⟩, ⟨t, z, c⟩⟩
  · exact ⟨⟨c, t, z⟩, ⟨s, c, z⟩, ⟨z, z, one_In⟩⟩
theorem turn_Ok {axis : Int} {a : Iv} (v : Ok a) (h : axis = 0 ∨ axis = 1 ∨ axis = 2) : MOk (M3.turn axis a) := by
  have c : Ok (cosOverI a) := by have := cosOver_b v; unfold Ok; omega
  have s : Ok (sinOverI a) := by have := sinOver_b v; unfold Ok; omega
  have t := neg_Ok s
  rw [turn_at v h]
  rcases h with h | h | h <;> subst h
  · exact ⟨⟨one_Ok, zero_Ok, zero_Ok⟩, ⟨zero_Ok, c, t⟩, ⟨zero_Ok, s, c⟩⟩
  · exact ⟨⟨c, zero_Ok, s⟩, ⟨zero_Ok, one_Ok, zero_Ok⟩, ⟨t, zero_Ok, c⟩⟩
  · exact ⟨⟨c, t, zero_Ok⟩, ⟨s, c, zero_Ok⟩, ⟨zero_Ok, zero_Ok, one_Ok⟩⟩
end Go.Sx
namespace Go.Sx
theorem of_id {n : Int} (h : -2147483648 ≤ n ∧ n ≤ 2147483648) : Iv.of n = ⟨n, n⟩ := by
  unfold Iv.of; rw [clampI_id (by omega)]
theorem of_Ok (n : Int) : Ok (Iv.of n) := by
  unfold Iv.of; have := clamp_bnd n; unfold Ok; simp only; omega
structure VNear (a b : R3) : Prop where
  x : -((1099511627776 : Int) * (340282366920938463463374607431768211456 : Int)) ≤ a.x - (340282366920938463463374607431768211456 : Int) * b.x ∧ a.x - (340282366920938463463374607431768211456 : Int) * b.x ≤ (1099511627776 : Int) * (340282366920938463463374607431768211456 : Int)
  y : -((1099511627776 : Int) * (340282366920938463463374607431768211456 : Int)) ≤ a.y - (340282366920938463463374607431768211456 : Int) * b.y ∧ a.y - (340282366920938463463374607431768211456 : Int) * b.y ≤ (1099511627776 : Int) * (340282366920938463463374607431768211456 : Int)
  z : -((1099511627776 : Int) * (340282366920938463463374607431768211456 : Int)) ≤ a.z - (340282366920938463463374607431768211456 : Int) * b.z ∧ a.z - (340282366920938463463374607431768211456 : Int) * b.z ≤ (1099511627776 : Int) * (340282366920938463463374607431768211456 : Int)
structure MNear (a b : RM) : Prop where
  x : VNear a.x b.x
  y : VNear a.y b.y
  z : VNear a.z b.z
structure VMeet (a b : V3) : Prop where
  x : Iv.meetB a.x b.x = true
  y : Iv.meetB a.y b.y = true
  z : Iv.meetB a.z b.z = true
structure MMeet (a b : M3) : Prop where
  x : VMeet a.x b.x
  y : VMeet a.y b.y
  z : VMeet a.z b.z
end Go.Sx
namespace Go.Sx
def V3.norm (v : V3) : Iv := Iv.add (Iv.add (Iv.square v.x) (Iv.square v.y)) (Iv.square v.z)
end Go.Sx
namespace Go.Sx
theorem square_prod {a : Iv} {m x : Int} (hm : 0 ≤ m) (h : In a m x) : (bif a.hasZero then 0 else min (a.lo * a.lo) (a.hi * a.hi)) * (m * m) ≤ x * x ∧ x * x ≤ max (a.lo * a.lo) (a.hi * a.hi) * (m * m) := by
  obtain ⟨h1, h2⟩ := h
  have e1 : a.lo * a.lo * (m * m) = (a.lo * m) * (a.lo * m) := by grind
  have e2 : a.hi * a.hi * (m * m) = (a.hi * m) * (a.hi * m) := by grind
  have hmm := sq_nonneg m
  have up : x * x ≤ (a.lo * m) * (a.lo * m) ∨ x * x ≤ (a.hi * m) * (a.hi * m) := by
    rcases Int.le_total 0 x with hx | hx
    · exact .inr (sq_le hx h2)
    · have := sq_le (x := -x) (y := -(a.lo * m)) (by omega) (by omega)
      rw [Int.neg_mul_neg, Int.neg_mul_neg] at this
      exact .inl this
  constructor
  · cases hz : a.hasZero with
    | true => simp only [cond_true, Int.zero_mul]; exact sq_nonneg x
    | false =>
      simp only [cond_false]
      have hz' : 0 < a.lo ∨ a.hi < 0 := by
        unfold Iv.hasZero at hz
        rw [Bool.and_eq_false_iff] at hz
        rcases hz with hz | hz
        · exact .inl (by have := of_decide_eq_false hz; omega)
        · exact .inr (by have := of_decide_eq_false hz; omega)
      rcases hz' with hz' | hz'
      · have h3 : 0 ≤ a.lo * m := Int.mul_nonneg (by omega) hm
        have h4 := sq_le h3 h1
        rw [← e1] at h4
        exact Int.le_trans (Int.mul_le_mul_of_nonneg_right (by omega) hmm) h4
      · have h3 : 0 ≤ (-a.hi) * m := Int.mul_nonneg (by omega) hm
        rw [Int.neg_mul] at h3
        have h4 := sq_le (x := -(a.hi * m)) (y := -x) h3 (by omega)
        rw [Int.neg_mul_neg, Int.neg_mul_neg, ← e2] at h4
        exact Int.le_trans (Int.mul_le_mul_of_nonneg_right (by omega) hmm) h4
  · rcases up with h | h
    · rw [← e1] at h
      exact Int.le_trans h (Int.mul_le_mul_of_nonneg_right (by omega) hmm)
    · rw [← e2] at h
      exact Int.le_trans h (Int.mul_le_mul_of_nonneg_right (by omega) hmm)
theorem square_Ok (a : Iv) : Ok (Iv.square a) := by
  unfold Iv.square
  cases a.valid
  · exact (show Ok ⟨0, 0⟩ by unfold Ok; decide)
  · refine ⟨(clamp_bnd _).1, clamp_mono ?_, (clamp_bnd _).2⟩
    have hc := ceil_spec (a := max (a.lo * a.lo) (a.hi * a.hi)) (b := 65536) (by decide)
    have h1 := sq_nonneg a.lo
    have h2 := sq_nonneg a.hi
    have : (bif a.hasZero then 0 else min (a.lo * a.lo) (a.hi * a.hi)) ≤ max (a.lo * a.lo) (a.hi * a.hi) := by cases a.hasZero <;> simp only [cond_true, cond_false] <;> omega
    omega
theorem square_In {a : Iv} {m x : Int} (va : Ok a) (hm : 0 ≤ m) (hx : In a m x) (h2 : x * x ≤ 2147483648 * (65536 * (m * m))) : In (Iv.square a) (65536 * (m * m)) (x * x) := by
  obtain ⟨p1, p2⟩ := square_prod hm hx
  have hmk := sq_nonneg m
  have hxx := sq_nonneg x
  simp only [Iv.square, valid_of va, cond_true]
  generalize (bif a.hasZero then 0 else min (a.lo * a.lo) (a.hi * a.hi)) = Lo at *
  generalize max (a.lo * a.lo) (a.hi * a.hi) = Hi at *
  have hc := ceil_spec (a := Hi) (b := 65536) (by decide)
  refine ⟨clamp_lo (by omega) ?_ (by omega), clamp_hi (by omega) ?_ h2⟩
  · rw [← Int.mul_assoc]
    exact Int.le_trans (Int.mul_le_mul_of_nonneg_right (by omega) hmk) p1
  · rw [← Int.mul_assoc]
    exact Int.le_trans p2 (Int.mul_le_mul_of_nonneg_right (by omega) hmk)
theorem norm_Ok (v : V3) : Ok v.norm := add_Ok _ _
theorem norm_In {v : V3} {m B : Int} {x : R3} (va : VOk v) (hm : 0 ≤ m) (hx : VIn v m x) (h : R3.dot x x ≤ 2147483648 * (65536 * (m * m))) : In v.norm (65536 * (m * m)) (R3.dot x x) := by
  have s1 := sq_nonneg x.x
  have s2 := sq_nonneg x.y
  have s3 := sq_nonneg x.z
  have hmk := sq_nonneg m
  unfold R3.dot at *
  have i1 := square_In va.x hm hx.x (by omega)
  have i2 := square_In va.y hm hx.y (by omega)
  have i3 := square_In va.z hm hx.z (by omega)
  have i4 := add_In (square_Ok _) (square_Ok _) (by omega) i1 i2 (by omega) (by omega)
  exact add_In (add_Ok _ _) (square_Ok _) (by omega) i4 i3 (by omega) (by omega)
theorem TR_len (k n : Int) (v : R3) : R3.dot ((TR k n).app v) ((TR k n).app v) ≤ (340282366920938463463374607431768211456 : Int) * (340282366920938463463374607431768211456 : Int) * R3.dot v v ∧ (340282366920938463463374607431768211456 : Int) * (340282366920938463463374607431768211456 : Int) * R3.dot v v - 2 * (1099511627776 : Int) * (340282366920938463463374607431768211456 : Int) * R3.dot v v ≤ R3.dot ((TR k n).app v) ((TR k n).app v) := by
  have n1 := P_norm n
  have n2 := P_norm_lo n
  have sx := sq_nonneg v.x
  have sy := sq_nonneg v.y
  have sz := sq_nonneg v.z
  generalize hq : PC n * PC n + PS n * PS n = q at *
  have key : ∀ {a b : Int}, 0 ≤ a → 0 ≤ b → q * a ≤ (340282366920938463463374607431768211456 : Int) * (340282366920938463463374607431768211456 : Int) * a ∧ ((340282366920938463463374607431768211456 : Int) * (340282366920938463463374607431768211456 : Int) - 2 * (1099511627776 : Int) * (340282366920938463463374607431768211456 : Int)) * a ≤ q * a := fun {a b} ha _ => ⟨Int.mul_le_mul_of_nonneg_right n1 ha, Int.mul_le_mul_of_nonneg_right n2 ha⟩
  unfold TR
  split
  · have e : R3.dot (RM.app ⟨⟨(340282366920938463463374607431768211456 : Int), 0, 0⟩, ⟨0, PC n, -PS n⟩, ⟨0, PS n, PC n⟩⟩ v) (RM.app ⟨⟨(340282366920938463463374607431768211456 : Int), 0, 0⟩, ⟨0, PC n, -PS n⟩, ⟨0, PS n, PC n⟩⟩ v) = (340282366920938463463374607431768211456 : Int) * (340282366920938463463374607431768211456 : Int) * (v.x * v.x) + q * (v.y * v.y + v.z * v.z) := by
      rw [← hq]; simp only [RM.app, R3.dot]; grind
    rw [e]
    have := key (a := v.y * v.y + v.z * v.z) (b := 0) (by omega) (by omega)
    unfold R3.dot
    omega
  · split
    · have e : R3.dot (RM.app ⟨⟨PC n, 0, PS n⟩, ⟨0, (340282366920938463463374607431768211456 : Int), 0⟩, ⟨-PS n, 0, PC n⟩⟩ v) (RM.app ⟨⟨PC n, 0, PS n⟩, ⟨0, (340282366920938463463374607431768211456 : Int), 0⟩, ⟨-PS n, 0, PC n⟩⟩ v) = (340282366920938463463374607431768211456 : Int) * (340282366920938463463374607431768211456 : Int) * (v.y * v.y) + q * (v.x * v.x + v.z * v.z) := by
        rw [← hq]; simp only [RM.app, R3.dot]; grind
      rw [e]
      have := key (a := v.x * v.x + v.z * v.z) (b := 0) (by omega) (by omega)
      unfold R3.dot
      omega
    · have e : R3.dot (RM.app ⟨⟨PC n, -PS n, 0⟩, ⟨PS n, PC n, 0⟩, ⟨0, 0, (340282366920938463463374607431768211456 : Int)⟩⟩ v) (RM.app ⟨⟨PC n, -PS n, 0⟩, ⟨PS n, PC n, 0⟩, ⟨0, 0, (340282366920938463463374607431768211456 : Int)⟩⟩ v) = (340282366920938463463374607431768211456 : Int) * (340282366920938463463374607431768211456 : Int) * (v.z * v.z) + q * (v.x * v.x + v.y * v.y) := by
        rw [← hq]; simp only [RM.app, R3.dot]; grind
      rw [e]
      have := key (a := v.x * v.x + v.y * v.y) (b := 0) (by omega) (by omega)
      unfold R3.dot
      omega
theorem of_In {n : Int} (h : -2147483648 ≤ n ∧ n ≤ 2147483648) : In (Iv.of n) 1 n := by
  rw [of_id h]; exact ⟨by simp, by simp⟩
structure Dg (P E : Int) (B : RM) : Prop where
  x : 0 ≤ P - R3.dot B.x B.x ∧ P - R3.dot B.x B.x ≤ E
  y : 0 ≤ P - R3.dot B.y B.y ∧ P - R3.dot B.y B.y ≤ E
  z : 0 ≤ P - R3.dot B.z B.z ∧ P - R3.dot B.z B.z ≤ E
  xy : R3.dot B.x B.y = 0
  xz : R3.dot B.x B.z = 0
  yz : R3.dot B.y B.z = 0
theorem TR_Dg (k n : Int) : Dg ((340282366920938463463374607431768211456 : Int) * (340282366920938463463374607431768211456 : Int)) (2 * (1099511627776 : Int) * (340282366920938463463374607431768211456 : Int)) (TR k n) ∧ Dg ((340282366920938463463374607431768211456 : Int) * (340282366920938463463374607431768211456 : Int)) (2 * (1099511627776 : Int) * (340282366920938463463374607431768211456 : Int)) (TR k n).tr := by
  have n1 := P_norm n
  have n2 := P_norm_lo n
  have c := Int.mul_comm (PS n) (PC n)
  unfold TR
  split
  · constructor <;> (constructor <;> simp only [RM.tr, R3.dot, Int.neg_mul, Int.mul_neg, Int.neg_neg, Int.mul_zero, Int.zero_mul] <;> omega)
  · split
    · constructor <;> (constructor <;> simp only [RM.tr, R3.dot, Int.neg_mul, Int.mul_neg, Int.neg_neg, Int.mul_zero, Int.zero_mul] <;> omega)
    · constructor <;> (constructor <;> simp only [RM.tr, R3.dot, Int.neg_mul, Int.mul_neg, Int.neg_neg, Int.mul_zero, Int.zero_mul] <;> omega)
theorem e_sq {e E a : Int} (h : 0 ≤ e ∧ e ≤ E) : 0 ≤ e * (a * a) ∧ e * (a * a) ≤ E * (a * a) :=
  ⟨Int.mul_nonneg h.1 (sq_nonneg a), Int.mul_le_mul_of_nonneg_right h.2 (sq_nonneg a)⟩
theorem tr_dot {B : RM} {P E : Int} (h : Dg P E B) (a b : R3) : R3.dot (B.tr.app a) (B.tr.app b) = P * R3.dot a b - ((P - R3.dot B.x B.x) * (a.x * b.x) + (P - R3.dot B.y B.y) * (a.y * b.y) + (P - R3.dot B.z B.z) * (a.z * b.z)) := by
  have e : R3.dot (B.tr.app a) (B.tr.app b) = a.x * b.x * R3.dot B.x B.x + a.y * b.y * R3.dot B.y B.y + a.z * b.z * R3.dot B.z B.z + (a.x * b.y + a.y * b.x) * R3.dot B.x B.y + (a.x * b.z + a.z * b.x) * R3.dot B.x B.z + (a.y * b.z + a.z * b.y) * R3.dot B.y B.z := by
    simp only [RM.app, RM.tr, R3.dot]; grind
  rw [e, h.xy, h.xz, h.yz]
  simp only [R3.dot]
  grind
theorem tr_self {B : RM} {P E Q : Int} (h : Dg P E B) (a : R3) (hP : 0 ≤ P) (hE : 0 ≤ E) : R3.dot (B.tr.app a) (B.tr.app a) ≤ P * R3.dot a a ∧ P * R3.dot a a - E * R3.dot a a ≤ R3.dot (B.tr.app a) (B.tr.app a) := by
  rw [tr_dot h]
  have h1 := e_sq (a := a.x) h.x
  have h2 := e_sq (a := a.y) h.y
  have h3 := e_sq (a := a.z) h.z
  have i : E * R3.dot a a = E * (a.x * a.x) + E * (a.y * a.y) + E * (a.z * a.z) := by simp only [R3.dot]; grind
  rw [i]
  omega
end Go.Sx
namespace Go.Sx
theorem abs_of_sq {x M : Int} (hM : 0 ≤ M) (h : x * x ≤ M * M) : -M ≤ x ∧ x ≤ M := by
  constructor
  · rcases Int.lt_or_le x (-M) with g | g
    · have := sq_le (x := M + 1) (y := -x) (by omega) (by omega)
      rw [Int.neg_mul_neg] at this
      have e : (M + 1) * (M + 1) = M * M + 2 * M + 1 := by grind
      omega
    · exact g
  · rcases Int.lt_or_le M x with g | g
    · have := sq_le (x := M + 1) (y := x) (by omega) (by omega)
      have e : (M + 1) * (M + 1) = M * M + 2 * M + 1 := by grind
      omega
    · exact g
theorem rb_of_dot {r : R3} {M : Int} (hM : 0 ≤ M) (h : R3.dot r r ≤ M * M) : RB M r := by
  have s1 := sq_nonneg r.x
  have s2 := sq_nonneg r.y
  have s3 := sq_nonneg r.z
  unfold R3.dot at h
  exact ⟨abs_of_sq hM (by omega), abs_of_sq hM (by omega), abs_of_sq hM (by omega)⟩
structure Orth (Q T : Int) (X : RM) : Prop where
  x : Q - T ≤ R3.dot X.x X.x ∧ R3.dot X.x X.x ≤ Q
  y : Q - T ≤ R3.dot X.y X.y ∧ R3.dot X.y X.y ≤ Q
  z : Q - T ≤ R3.dot X.z X.z ∧ R3.dot X.z X.z ≤ Q
  xy : -T ≤ R3.dot X.x X.y ∧ R3.dot X.x X.y ≤ T
  xz : -T ≤ R3.dot X.x X.z ∧ R3.dot X.x X.z ≤ T
  yz : -T ≤ R3.dot X.y X.z ∧ R3.dot X.y X.z ≤ T
theorem Orth.rmb {X : RM} {M T : Int} (o : Orth (M * M) T X) (hM : 0 ≤ M) : RMB M X := ⟨rb_of_dot hM o.x.2, rb_of_dot hM o.y.2, rb_of_dot hM o.z.2⟩
end Go.Sx
namespace Go.Sx
structure Sub (a b : Iv) : Prop where
  ok : Ok a
  ok' : Ok b
  lo : b.lo ≤ a.lo
  hi : a.hi ≤ b.hi
theorem Sub.refl {a : Iv} (h : Ok a) : Sub a a := ⟨h, h, Int.le_refl _, Int.le_refl _⟩
theorem Sub.trans {a b c : Iv} (h : Sub a b) (k : Sub b c) : Sub a c := ⟨h.ok, k.ok', by have := h.lo; have := k.lo; omega, by have := h.hi; have := k.hi; omega⟩
theorem in1 {a b : Iv} (h : Sub a b) {x : Int} (h1 : a.lo ≤ x) (h2 : x ≤ a.hi) : In b 1 x := ⟨by have := h.lo; omega, by have := h.hi; omega⟩
theorem sub_mul {a a' b b' : Iv} (h : Sub a a') (k : Sub b b') : Sub (Iv.mul a b) (Iv.mul a' b') := by
  refine ⟨mul_Ok _ _, mul_Ok _ _, ?_, ?_⟩
  all_goals
    have va := h.ok
    have vb := k.ok
    have p1 := mul_prod (by decide) (by decide) (in1 h (x := a.lo) (Int.le_refl _) va.2.1) (in1 k (x := b.lo) (Int.le_refl _) vb.2.1)
    have p2 := mul_prod (by decide) (by decide) (in1 h (x := a.lo) (Int.le_refl _) va.2.1) (in1 k (x := b.hi) vb.2.1 (Int.le_refl _))
    have p3 := mul_prod (by decide) (by decide) (in1 h (x := a.hi) va.2.1 (Int.le_refl _)) (in1 k (x := b.lo) (Int.le_refl _) vb.2.1)
    have p4 := mul_prod (by decide) (by decide) (in1 h (x := a.hi) va.2.1 (Int.le_refl _)) (in1 k (x := b.hi) vb.2.1 (Int.le_refl _))
    simp only [Iv.mul, valid_of h.ok, valid_of h.ok', valid_of k.ok, valid_of k.ok', Bool.and_self, cond_true]
    simp only [Int.mul_one] at p1 p2 p3 p4
    refine clamp_mono ?_
  · have : min4 (a'.lo * b'.lo) (a'.lo * b'.hi) (a'.hi * b'.lo) (a'.hi * b'.hi) ≤ min4 (a.lo * b.lo) (a.lo * b.hi) (a.hi * b.lo) (a.hi * b.hi) := by
      generalize min4 (a'.lo * b'.lo) (a'.lo * b'.hi) (a'.hi * b'.lo) (a'.hi * b'.hi) = m at *
      unfold min4; omega
    omega
  · have : max4 (a.lo * b.lo) (a.lo * b.hi) (a.hi * b.lo) (a.hi * b.hi) ≤ max4 (a'.lo * b'.lo) (a'.lo * b'.hi) (a'.hi * b'.lo) (a'.hi * b'.hi) := by
      generalize max4 (a'.lo * b'.lo) (a'.lo * b'.hi) (a'.hi * b'.lo) (a'.hi * b'.hi) = m at *
      unfold max4; omega
    unfold ceilI
    omega
structure VSub (a b : V3) : Prop where
  x : Sub a.x b.x
  y : Sub a.y b.y
  z : Sub a.z b.z
structure MSub (a b : M3) : Prop where
  x : VSub a.x b.x
  y : VSub a.y b.y
  z : VSub a.z b.z
theorem VSub.refl {a : V3} (h : VOk a) : VSub a a := ⟨.refl h.x, .refl h.y, .refl h.z⟩
theorem MSub.refl {a : M3} (h : MOk a) : MSub a a := ⟨.refl h.x, .refl h.y, .refl h.z⟩
theorem MSub.tr {a b : M3} (h : MSub a b) : MSub a.tr b.tr := ⟨⟨h.x.x, h.y.x, h.z.x⟩, ⟨h.x.y, h.y.y, h.z.y⟩, ⟨h.x.z, h.y.z, h.z.z⟩⟩
end Go.Sx
namespace Go.Sx
def R3.add (a b : R3) : R3 := ⟨a.x + b.x, a.y + b.y, a.z + b.z⟩
def R3.neg (a : R3) : R3 := ⟨-a.x, -a.y, -a.z⟩
def R3.scale (a : R3) (k : Int) : R3 := ⟨a.x * k, a.y * k, a.z * k⟩
def Z3.r (z : Z3) : R3 := ⟨z.x, z.y, z.z⟩
theorem In.scale {I : Iv} {m x k : Int} (h : In I m x) (hk : 0 ≤ k) : In I (m * k) (x * k) :=
  ⟨by rw [← Int.mul_assoc]; exact Int.mul_le_mul_of_nonneg_right h.lo hk, by rw [← Int.mul_assoc]; exact Int.mul_le_mul_of_nonneg_right h.hi hk⟩
theorem VIn.scale {v : V3} {m k : Int} {x : R3} (h : VIn v m x) (hk : 0 ≤ k) : VIn v (m * k) (x.scale k) := ⟨h.x.scale hk, h.y.scale hk, h.z.scale hk⟩
theorem VIn.neg {v : V3} {m : Int} {x : R3} (o : VOk v) (h : VIn v m x) : VIn (V3.neg v) m x.neg := ⟨neg_In o.x h.x, neg_In o.y h.y, neg_In o.z h.z⟩
theorem VOk.neg {v : V3} (o : VOk v) : VOk (V3.neg v) := ⟨neg_Ok o.x, neg_Ok o.y, neg_Ok o.z⟩
theorem add_VOk (a b : V3) : VOk (V3.add a b) := ⟨add_Ok _ _, add_Ok _ _, add_Ok _ _⟩
theorem of_VOk (z : Z3) : VOk (V3.of z) := ⟨of_Ok _, of_Ok _, of_Ok _⟩
theorem VIn.add {a b : V3} {m B : Int} {x y : R3} (va : VOk a) (vb : VOk b) (hm : 0 ≤ m) (hx : VIn a m x) (hy : VIn b m y) (h : RB (B * m) (x.add y)) (hB : B ≤ 2147483648) : VIn (V3.add a b) m (x.add y) := by
  have hb := Int.mul_le_mul_of_nonneg_right hB hm
  have h1 := h.x
  have h2 := h.y
  have h3 := h.z
  simp only [R3.add] at h1 h2 h3
  exact ⟨add_In va.x vb.x hm hx.x hy.x (by omega) (by omega), add_In va.y vb.y hm hx.y hy.y (by omega) (by omega), add_In va.z vb.z hm hx.z hy.z (by omega) (by omega)⟩
theorem RB.scale {r : R3} {B k : Int} (h : RB B r) (hk : 0 ≤ k) : RB (B * k) (r.scale k) := by
  have e : ∀ {y : Int}, -B ≤ y ∧ y ≤ B → -(B * k) ≤ y * k ∧ y * k ≤ B * k := fun {y} hy => by
    have h1 := Int.mul_le_mul_of_nonneg_right hy.1 hk
    have h2 := Int.mul_le_mul_of_nonneg_right hy.2 hk
    rw [Int.neg_mul] at h1
    exact ⟨h1, h2⟩
  exact ⟨e h.x, e h.y, e h.z⟩
theorem RB.add {a b : R3} {B C Z m : Int} (h : RB (B * m) a) (k : RB (C * m) b) (hD : B + C = Z) : RB (Z * m) (a.add b) := by
  subst hD
  rw [Int.add_mul]
  have h1 := h.x; have h2 := h.y; have h3 := h.z; have k1 := k.x; have k2 := k.y; have k3 := k.z
  exact ⟨by simp only [R3.add]; omega, by simp only [R3.add]; omega, by simp only [R3.add]; omega⟩
theorem RB.neg {a : R3} {B : Int} (h : RB B a) : RB B a.neg := by
  have h1 := h.x; have h2 := h.y; have h3 := h.z
  exact ⟨by simp only [R3.neg]; omega, by simp only [R3.neg]; omega, by simp only [R3.neg]; omega⟩
structure Rot (r : M3) (s T : Int) (X : RM) : Prop where
  pos : 0 < s
  ok : MOk r
  isin : MIn r s X
  o : Orth ((65536 * s) * (65536 * s)) T X
  o' : Orth ((65536 * s) * (65536 * s)) T X.tr
  c : ∀ a, R3.dot (X.tr.app a) (X.tr.app a) ≤ (65536 * s) * (65536 * s) * R3.dot a a
  c' : ∀ a, R3.dot (X.app a) (X.app a) ≤ (65536 * s) * (65536 * s) * R3.dot a a
  t0 : 0 ≤ T
  small : T * 1152921504606846976 ≤ (65536 * s) * (65536 * s)
theorem Rot.tr {r : M3} {s T : Int} {X : RM} (h : Rot r s T X) : Rot r.tr s T X.tr := ⟨h.pos, h.ok.tr, h.isin.tr, h.o', h.o, h.c', h.c, h.t0, h.small⟩
theorem Rot.rmb {r : M3} {s T : Int} {X : RM} (h : Rot r s T X) : RMB (65536 * s) X := h.o.rmb (by have := h.pos; omega)
theorem rot_dot {B C m k : Int} {x y : R3} (hx : RB (B * m) x) (hy : RB (C * k) y) : -(3 * (B * C) * (m * k)) ≤ R3.dot x y ∧ R3.dot x y ≤ 3 * (B * C) * (m * k) := by
  have p1 := abs_mul hx.x hy.x
  have p2 := abs_mul hx.y hy.y
  have p3 := abs_mul hx.z hy.z
  have e : 3 * (B * C) * (m * k) = B * m * (C * k) + B * m * (C * k) + B * m * (C * k) := by grind
  rw [e]
  unfold R3.dot
  omega
theorem Rot.app {r : M3} {s T : Int} {X : RM} (h : Rot r s T X) {v : V3} {k C : Int} {y : R3} (vo : VOk v) (hk : 0 ≤ k) (vi : VIn v k y) (vb : RB (C * k) y) (hC : 3 * (65536 * C) ≤ 140737488355328) :
    VIn (M3.apply r v) ((65536 * s) * k) (X.app y) ∧ RB ((3 * C) * ((65536 * s) * k)) (X.app y) := by
  have hs := h.pos
  have rb := h.rmb
  refine ⟨?_, ?_⟩
  · have := app_In h.ok vo (by omega) hk h.isin vi rb vb hC
    rwa [← Int.mul_assoc] at this
  · have d : ∀ {u : R3}, RB (65536 * s) u → -(3 * C * (65536 * s * k)) ≤ R3.dot u y ∧ R3.dot u y ≤ 3 * C * (65536 * s * k) := fun hu => by
      have := rot_dot hu vb
      have e : 3 * (65536 * C) * (s * k) = 3 * C * (65536 * s * k) := by grind
      rwa [e] at this
    exact ⟨d rb.x, d rb.y, d rb.z⟩
structure Nearly (S T : Int) (u : R3) (v : Z3) : Prop where
  x : v.x * S - T ≤ u.x ∧ u.x ≤ v.x * S + T
  y : v.y * S - T ≤ u.y ∧ u.y ≤ v.y * S + T
  z : v.z * S - T ≤ u.z ∧ u.z ≤ v.z * S + T
structure Lm (a : Iv) : Prop where
  ok : Ok a
  lo : -65536 ≤ a.lo
  hi : a.hi ≤ 65536
structure VLm (v : V3) : Prop where
  x : Lm v.x
  y : Lm v.y
  z : Lm v.z
structure MLm (v : M3) : Prop where
  x : VLm v.x
  y : VLm v.y
  z : VLm v.z
theorem MLm.ok {m : M3} (h : MLm m) : MOk m := ⟨⟨h.x.x.ok, h.x.y.ok, h.x.z.ok⟩, ⟨h.y.x.ok, h.y.y.ok, h.y.z.ok⟩, ⟨h.z.x.ok, h.z.y.ok, h.z.z.ok⟩⟩
theorem one_Lm : Lm iv1 := ⟨one_Ok, by decide, by decide⟩
theorem zero_Lm : Lm iv0 := ⟨zero_Ok, by decide, by decide⟩
theorem unit_MLm : MLm M3.unit := ⟨⟨one_Lm, zero_Lm, zero_Lm⟩, ⟨zero_Lm, one_Lm, zero_Lm⟩, ⟨zero_Lm, zero_Lm, one_Lm⟩⟩
structure PLm (p : Po) : Prop where
  r : MLm p.r
  t : VOk p.t
end Go.Sx
namespace Go.Sx
theorem Dg.orth {P E : Int} {B : RM} (h : Dg P E B) (hE : 0 ≤ E) : Orth P E B := by
  have h1 := h.x; have h2 := h.y; have h3 := h.z; have h4 := h.xy; have h5 := h.xz; have h6 := h.yz
  exact ⟨by omega, by omega, by omega, by omega, by omega, by omega⟩
theorem rot_unit : Rot M3.unit 1 0 ⟨⟨65536, 0, 0⟩, ⟨0, 65536, 0⟩, ⟨0, 0, 65536⟩⟩ := by
  have o1 : In iv1 1 65536 := ⟨by decide, by decide⟩
  have z1 := zero_In 1
  refine ⟨by decide, unit_MLm.ok, ⟨⟨o1, z1, z1⟩, ⟨z1, o1, z1⟩, ⟨z1, z1, o1⟩⟩, ⟨by decide, by decide, by decide, by decide, by decide, by decide⟩, ⟨by decide, by decide, by decide, by decide, by decide, by decide⟩, fun a => ?_, fun a => ?_, by decide, by decide⟩
  · apply Int.le_of_eq; simp only [RM.app, RM.tr, R3.dot]; grind
  · apply Int.le_of_eq; simp only [RM.app, R3.dot]; grind
theorem rot_turn {k n : Int} {a : Iv} (hk : 0 ≤ k ∧ k < 3) (v : Ok a) (hn : a.lo ≤ n ∧ n ≤ a.hi) : Rot (M3.turn k a) (5192296858534827628530496329220096 : Int) (2 * (1099511627776 : Int) * (340282366920938463463374607431768211456 : Int)) (TR k n) := by
  have h : k = 0 ∨ k = 1 ∨ k = 2 := by omega
  have d := TR_Dg k n
  refine ⟨by decide, turn_Ok v h, turn_In v hn h, d.1.orth (by decide), d.2.orth (by decide), fun b => (tr_self (Q := 0) d.1 b (by decide) (by decide)).1, fun b => (tr_self (Q := 0) d.2 b (by decide) (by decide)).1, by decide, by decide⟩
theorem mul_app (A B : RM) (a : R3) : (RM.mul A B).app a = A.app (B.app a) := by
  simp only [RM.mul, RM.tr, RM.app, R3.dot, R3.mk.injEq]
  refine ⟨?_, ?_, ?_⟩ <;> grind
structure Mot (p : Po) (s T : Int) (X : RM) (z : Z3) : Prop where
  eq : p.t = V3.of z
  rot : Rot p.r s T X
  lim : MLm p.r
  b : RB 196608 z.r
theorem pt_In1 {z : Z3} {B : Int} (h : RB B z.r) (hB : B ≤ 2147483648) : VIn (V3.of z) 1 z.r := by
  have h1 := h.x
  have h2 := h.y
  have h3 := h.z
  simp only [Z3.r] at h1 h2 h3
  exact ⟨of_In (by omega), of_In (by omega), of_In (by omega)⟩
theorem Nearly.eq {S T : Int} {u u' : R3} {v : Z3} (h : Nearly S T u v) (e : u = u') : Nearly S T u' v := e ▸ h
theorem Nearly.shift {S T : Int} {u : R3} {v z : Z3} (h : Nearly S T u ⟨v.x - z.x, v.y - z.y, v.z - z.z⟩) : Nearly S T ((z.r.scale S).add u) v := by
  have h1 := h.x; have h2 := h.y; have h3 := h.z
  simp only [Int.sub_mul] at h1 h2 h3
  exact ⟨by simp only [R3.add, R3.scale, Z3.r]; omega, by simp only [R3.add, R3.scale, Z3.r]; omega, by simp only [R3.add, R3.scale, Z3.r]; omega⟩
structure PSub (p q : Po) : Prop where
  r : MSub p.r q.r
  t : VSub p.t q.t
theorem PSub.refl {p : Po} (h : PLm p) : PSub p p := ⟨.refl h.r.ok, .refl h.t⟩
end Go.Sx
namespace Go.Sx
theorem jsOf_get (L : List Int) (i : Nat) : ∀ (n k : Nat) (j : J), (jsOf L i n).1[k]? = some j → ∃ p, j = (jointOf L p (k : Int)).1
  | 0, k, j, h => by simp [jsOf] at h
  | n + 1, k, j, h => by
    have hl := jsOf_len L i n
    rcases Nat.lt_or_ge k n with hk | hk
    · exact jsOf_get L i n k j (by rw [← h]; show _ = ((jsOf L i n).1 ++ [_])[k]?; rw [List.getElem?_append_left (by omega)])
    · rcases Nat.lt_or_ge n k with hk2 | hk2
      · exfalso
        have := (List.getElem?_eq_some_iff.1 h).1
        rw [jsOf_len] at this
        omega
      · obtain rfl : k = n := by omega
        refine ⟨(jsOf L i k).2, ?_⟩
        have h' : ((jsOf L i k).1 ++ [(jointOf L (jsOf L i k).2 (k : Int)).1])[k]? = some j := h
        rw [List.getElem?_append_right (by omega), hl] at h'
        simp at h'
        exact h'.symm
theorem jointOf_same (L : List Int) (p : Nat) (k : Int) : (jointOf L p k).1.name = letterB k ∧ (jointOf L p k).1.kind = kindOf (srcR L (p + 2) 8) ∧ (jointOf L p k).1.parent = (jBase L p k).parent ∧ (jointOf L p k).1.off = (jBase L p k).off ∧
    (jointOf L p k).1.weight = 1 + srcR L p 4 ∧ (jointOf L p k).1.speed = 65536 ∧ (jointOf L p k).1.accel = 65536 + srcR L (p + 1) 3 ∧ (jointOf L p k).1.torque = 327680 := by
  unfold jointOf
  split
  · exact ⟨rfl, rfl, rfl, rfl, rfl, rfl, rfl, rfl⟩
  · split <;> exact ⟨rfl, rfl, rfl, rfl, rfl, rfl, rfl, rfl⟩
theorem kindOf_b (x : Int) : 0 ≤ kindOf x ∧ kindOf x ≤ 6 := by
  unfold kindOf; repeat' split
  all_goals omega
theorem msOf_get (L : List Int) (i : Nat) : ∀ n, ∀ m ∈ msOf L i n, (0 ≤ m.link ∧ m.link < nJ L i) ∧ (1 ≤ m.mass ∧ m.mass ≤ 65536) ∧ (-4194304 ≤ m.p.x ∧ m.p.x ≤ 4194304) ∧ (-4194304 ≤ m.p.y ∧ m.p.y ≤ 4194304) ∧ (-4194304 ≤ m.p.z ∧ m.p.z ≤ 4194304)
  | 0, m, h => by cases h
  | n + 1, m, h => by
    rcases List.mem_append.1 (show m ∈ msOf L i n ++ [_] from h) with h | h
    · exact msOf_get L i n m h
    · obtain rfl := List.mem_singleton.1 h
      have hn := nJ_b L i
      have a := srcR_bnd L (mQ L i + 1 + 4 * n) (k := (nJ L i : Int)) (by omega)
      have b := srcR_bnd L (mQ L i + 1 + 4 * n + 1) (k := 9000) (by decide)
      have c := srcR_bnd L (mQ L i + 1 + 4 * n + 2) (k := 2 * 3 + 1) (by decide)
      have d := srcR_bnd L (mQ L i + 1 + 4 * n + 3) (k := 2 * 2 + 1) (by decide)
      dsimp only
      unfold srcS
      omega
end Go.Sx
namespace Go.Sx
open Go.RowKit
section
variable {P : Program} {n : Nat} {w0 : Base} {ops : Array Oper} {Q : Exit → Act → World → Prop} {S : Slots} {H : Heap}
variable {ty : TypeId} {pos : String} {af : Array Edge} {g : Option (Nat × Bool)} {rest : List Oper}
theorem doL_storeRowV {t : TypeId} {x y : Operand} {b e sz j : Nat} {ag : Bool} {rows : List (List Value)} {vs : List Value} {v : Value} (id : Nat) (hT : tyB P t ag sz = true) (hR : lookR w0.R id = some ((· = b), RowsF b sz e rows))
    (hx : ev S x = some (pAt (some ⟨b, 0, none⟩) (j * sz))) (hy : ev S y = some v) (hj : j < rows.length) (hc : v.cells = vs.toArray) (hv : Nat.beq vs.length sz = true) (h1 : vs.all Value.oneCell' = true)
    (hw : wantedS ops S ⟨none, .store t x y, ty, pos, af, g⟩ = some true) (hu : (updR w0.R id (· = b) (RowsF b sz e (rows.set j vs))).isSome = true)
    (next : ∀ R', updR w0.R id (· = b) (RowsF b sz e (rows.set j vs)) = some R' → DoL P n ⟨w0.w, R'⟩ ops Q rest S H) :
    DoL P n w0 ops Q (⟨none, .store t x y, ty, pos, af, g⟩ :: rest) S H := by
  intro a w f k
  unfold wpList
  rw [wanted_fits f hw, if_pos rfl]
  refine .inl ?_
  obtain ⟨R', hR'⟩ := Option.isSome_iff_exists.1 hu
  have hF : RowsF b sz e rows w := holds_r hR _ _ k
  have hvs := Nat.eq_of_beq_eq_true hv
  have hlen : j * sz + sz ≤ rows.flatten.length := by
    rw [rows_len rows hF.1]
    have := Nat.mul_le_mul_right sz (show j + 1 ≤ rows.length from hj)
    rw [Nat.add_mul] at this
    omega
  have hst := run_storeCells_at P b (0 + j * sz) e vs 0 rows.flatten.toArray w hF.2 (by simp; simp at hlen; omega) (fun u hu => List.all_eq_true.1 h1 u hu)
  have hx' : ev S x = some (.pointer (some ⟨b, 0 + j * sz, none⟩)) := hx
  have hrun : (execOp a.eval ⟨none, .store t x y, ty, pos, af, g⟩).run P w = .ok .skip (w.setRow b (rows.set j vs).flatten.toArray) := by
    rw [rows_set rows j vs hF.1 hj hvs]
    simp only [Nat.add_zero, Nat.zero_add, hvs] at hst
    have hx2 : ev S x = some (.pointer (some ⟨b, j * sz, none⟩)) := by rw [hx', Nat.zero_add]
    simp [execOp, f.ev hx2, f.ev hy, Instr.storeAt, Instr.sureAddr, storeVar, tyB_size hT, hc, hvs, hst]
  unfold Oper.wp
  rw [hrun]
  refine next R' hR' _ _ f (k.swap hR (GrowB.set b w _) (fun _ h => h) (rowsF_dep _ _ _ _) ⟨fun r hr => ?_, setRow_heap w b _ _ e _ hF.2⟩ hR')
  rcases List.mem_or_eq_of_mem_set hr with h | h
  · exact hF.1 r h
  · rw [h]; exact hvs
end
def vc (v : V3) : List Value := [.int .i64 v.x.lo, .int .i64 v.x.hi, .int .i64 v.y.lo, .int .i64 v.y.hi, .int .i64 v.z.lo, .int .i64 v.z.hi]
def plR (p : Po) (l : List Z3) : List V3 := l.map fun z => Po.app p (V3.of z)
def zV : List Value := List.replicate 6 (.int .i64 0)
def plF (ps : List V3) (m : Nat) : List (List Value) := ps.map vc ++ List.replicate m zV
theorem plF_set {ps : List V3} {m : Nat} (v : V3) : (plF ps (m + 1)).set ps.length (vc v) = plF (ps ++ [v]) m := by
  unfold plF
  rw [List.set_append_right _ _ (by simp)]
  simp [List.replicate_succ]
theorem plF_me {ps : List V3} {m : Nat} : (plF ps (m + 1))[ps.length]? = some zV := by
  unfold plF
  rw [List.getElem?_append_right (by simp)]
  simp
theorem plR_take {p : Po} {l : List Z3} {k : Nat} {z : Z3} (h : l[k]? = some z) : plR p (l.take (k + 1)) = plR p (l.take k) ++ [Po.app p (V3.of z)] := by
  unfold plR
  rw [List.take_add_one, h]
  simp
def ZB (z : Z3) : Prop := (-4194304 ≤ z.x ∧ z.x ≤ 4194304) ∧ (-4194304 ≤ z.y ∧ z.y ≤ 4194304) ∧ (-4194304 ≤ z.z ∧ z.z ≤ 4194304)
def SpOK (n : Nat) (s : Sp) : Prop := (-1 ≤ s.link ∧ s.link < n) ∧ (1 ≤ s.radius ∧ s.radius ≤ 1048576) ∧ (1 ≤ s.pts.length ∧ s.pts.length ≤ 8) ∧ ∀ z ∈ s.pts, ZB z
def spP (ps : List Po) (s : Sp) : Po := if s.link = -1 then Po.rest else ps.getD s.link.toNat Po.rest
def ptsP (ps : List Po) (ss : List Sp) : List (List V3) := ss.map fun s => plR (spP ps s) s.pts
def plc (v : List V3) (b : Nat) : List Value := [.slice (some ⟨b, 0, none⟩) v.length v.length]
def plRows : List (List V3) → List Nat → List (List Value)
  | v :: vs, b :: bs => plc v b :: plRows vs bs
  | _, _ => []
def PlF : List (List V3) → List Nat → World → Prop
  | v :: vs, b :: bs, w => SlcIs 6 (some ⟨b, 0, none⟩) (v.map vc) w ∧ PlF vs bs w
  | _, _, _ => True
theorem plRows_len : ∀ (vs : List (List V3)) (bs : List Nat), bs.length = vs.length → (plRows vs bs).length = vs.length
  | [], _, _ => by simp [plRows]
  | _ :: vs, _ :: bs, h => by simp [plRows, plRows_len vs bs (by simpa using h)]
  | _ :: _, [], h => by simp at h
theorem plRows_snoc : ∀ (vs : List (List V3)) (bs : List Nat) (v : List V3) (b : Nat), bs.length = vs.length → plRows (vs ++ [v]) (bs ++ [b]) = plRows vs bs ++ [plc v b]
  | [], [], v, b, _ => rfl
  | _ :: vs, _ :: bs, v, b, h => by simp [plRows, plRows_snoc vs bs v b (by simpa using h)]
  | [], _ :: _, _, _, h => by simp at h
  | _ :: _, [], _, _, h => by simp at h
theorem plRows_get : ∀ (vs : List (List V3)) (bs : List Nat) (i : Nat) (v : List V3) (b : Nat), vs[i]? = some v → bs[i]? = some b → (plRows vs bs)[i]? = some (plc v b)
  | x :: vs, c :: bs, 0, v, b, h1, h2 => by
    simp at h1 h2
    subst h1 h2
    rfl
  | x :: vs, c :: bs, i + 1, v, b, h1, h2 => plRows_get vs bs i v b (by simpa using h1) (by simpa using h2)
  | [], _, _, _, _, h, _ => by simp at h
  | _ :: _, [], _, _, _, _, h => by simp at h
theorem PlF_snoc : ∀ (vs : List (List V3)) (bs : List Nat) (v : List V3) (b : Nat) (w : World), bs.length = vs.length → PlF vs bs w → SlcIs 6 (some ⟨b, 0, none⟩) (v.map vc) w → PlF (vs ++ [v]) (bs ++ [b]) w
  | [], [], _, _, _, _, _, h => ⟨h, trivial⟩
  | _ :: vs, _ :: bs, v, b, w, h, h1, h2 => ⟨h1.1, PlF_snoc vs bs v b w (by simpa using h) h1.2 h2⟩
  | [], _ :: _, _, _, _, h, _, _ => by simp at h
  | _ :: _, [], _, _, _, h, _, _ => by simp at h
theorem PlF_un : ∀ (vs : List (List V3)) (bs : List Nat) (v : List V3) (b : Nat) (w : World), bs.length = vs.length → PlF (vs ++ [v]) (bs ++ [b]) w → PlF vs bs w ∧ SlcIs 6 (some ⟨b, 0, none⟩) (v.map vc) w
  | [], [], _, _, _, _, h => ⟨trivial, h.1⟩
  | _ :: vs, _ :: bs, v, b, w, h, h1 => by
    obtain ⟨p, q⟩ := PlF_un vs bs v b w (by simpa using h) h1.2
    exact ⟨⟨h1.1, p⟩, q⟩
  | [], _ :: _, _, _, _, h, _ => by simp at h
  | _ :: _, [], _, _, _, h, _ => by simp at h
theorem PlF_dep {vs : List (List V3)} {bs : List Nat} {v : List V3} {b : Nat} {D1 D2 : Nat → Prop} (h : bs.length = vs.length) (h1 : Depends D1 (SlcIs 6 (some ⟨b, 0, none⟩) (v.map vc))) (h2 : Depends D2 (PlF vs bs)) : Depends (fun q => D1 q ∨ D2 q) (PlF (vs ++ [v]) (bs ++ [b])) := fun w w' hq hF => by
  obtain ⟨p, q⟩ := PlF_un vs bs v b w h hF
  exact PlF_snoc vs bs v b w' h (h2 w w' (fun k hk => hq k (.inr hk)) p) (h1 w w' (fun k hk => hq k (.inl hk)) q)
theorem PlF_get : ∀ (vs : List (List V3)) (bs : List Nat) (i : Nat) (v : List V3) (b : Nat) (w : World), vs[i]? = some v → bs[i]? = some b → PlF vs bs w → SlcIs 6 (some ⟨b, 0, none⟩) (v.map vc) w
  | x :: vs, c :: bs, 0, v, b, w, h1, h2, h => by
    simp at h1 h2
    subst h1 h2
    exact h.1
  | x :: vs, c :: bs, i + 1, v, b, w, h1, h2, h => PlF_get vs bs i v b w (by simpa using h1) (by simpa using h2) h.2
  | [], _, _, _, _, _, h, _, _ => by simp at h
  | _ :: _, [], _, _, _, _, _, h, _ => by simp at h
theorem PtsF_get : ∀ (ss : List Sp) (ds : List Ad) (i : Nat) (s : Sp) (d : Ad) (w : World), ss[i]? = some s → ds[i]? = some d → PtsF ss ds w → SlcIs 3 d.1 (s.pts.map z3c) w
  | x :: ss, c :: ds, 0, s, d, w, h1, h2, h => by
    simp at h1 h2
    subst h1 h2
    exact h.1
  | x :: ss, c :: ds, i + 1, s, d, w, h1, h2, h => PtsF_get ss ds i s d w (by simpa using h1) (by simpa using h2) h.2
  | [], _, _, _, _, _, h, _, _ => by simp at h
  | _ :: _, [], _, _, _, _, _, h, _ => by simp at h
theorem spRows_get : ∀ (ss : List Sp) (ds : List Ad) (i : Nat) (s : Sp) (d : Ad), ss[i]? = some s → ds[i]? = some d → (spRows ss ds)[i]? = some (spc s d)
  | x :: ss, c :: ds, 0, s, d, h1, h2 => by
    simp at h1 h2
    subst h1 h2
    rfl
  | x :: ss, c :: ds, i + 1, s, d, h1, h2 => spRows_get ss ds i s d (by simpa using h1) (by simpa using h2)
  | [], _, _, _, _, h, _ => by simp at h
  | _ :: _, [], _, _, _, _, h => by simp at h
theorem PtsF_grow {w w' : World} : ∀ (ss : List Sp) (ds : List Ad), PtsF ss ds w → Grow w w' → PtsF ss ds w'
  | [], _, _, _ => trivial
  | _ :: _, [], _, _ => trivial
  | s :: ss, d :: ds, h, g => ⟨slc_grow h.1 g, PtsF_grow ss ds h.2 g⟩
def lsR (vs : List (List V3)) (bs : List Nat) (m : Nat) : List (List Value) := plRows vs bs ++ List.replicate m [.slice none 0 0]
theorem lsR_set {vs : List (List V3)} {bs : List Nat} {m : Nat} (v : List V3) (b : Nat) (h : bs.length = vs.length) : (lsR vs bs (m + 1)).set vs.length (plc v b) = lsR (vs ++ [v]) (bs ++ [b]) m := by
  unfold lsR
  rw [plRows_snoc vs bs v b h, List.set_append_right _ _ (by rw [plRows_len vs bs h]; exact Nat.le_refl _), plRows_len vs bs h]
  simp [List.replicate_succ]
theorem lsR_me {vs : List (List V3)} {bs : List Nat} {m : Nat} (h : bs.length = vs.length) : (lsR vs bs (m + 1))[vs.length]? = some [.slice none 0 0] := by
  unfold lsR
  rw [List.getElem?_append_right (by rw [plRows_len vs bs h]; exact Nat.le_refl _), plRows_len vs bs h]
  simp
theorem ptsP_take {ps : List Po} {ss : List Sp} {k : Nat} {s : Sp} (h : ss[k]? = some s) : ptsP ps (ss.take (k + 1)) = ptsP ps (ss.take k) ++ [plR (spP ps s) s.pts] := by
  unfold ptsP
  rw [List.take_add_one, h]
  simp
end Go.Sx
namespace Go.Sx
theorem ptsOf_b {L : List Int} {p : Nat} {c : Z3} (hc : (-294912 ≤ c.x ∧ c.x ≤ 294912) ∧ (-294912 ≤ c.y ∧ c.y ≤ 294912) ∧ (-294912 ≤ c.z ∧ c.z ≤ 294912)) : ∀ k, ∀ z ∈ ptsOf L p c k, ZB z
  | 0, z, h => by
    obtain rfl := List.mem_singleton.1 h
    unfold ZB; omega
  | k + 1, z, h => by
    rcases List.mem_append.1 (show z ∈ ptsOf L p c k ++ [_] from h) with h | h
    · exact ptsOf_b hc k z h
    · obtain rfl := List.mem_singleton.1 h
      have a := srcR_bnd L (p + 1 + 3 * k) (k := 2 * 3 + 1) (by decide)
      have b := srcR_bnd L (p + 1 + 3 * k + 1) (k := 2 * 2 + 1) (by decide)
      have d := srcR_bnd L (p + 1 + 3 * k + 2) (k := 2 * 2 + 1) (by decide)
      unfold ZB ptOf srcS
      dsimp only
      omega
theorem rad_b {r : Int} (h : 0 ≤ r ∧ r < 4) : 1 ≤ ((1 + r) * 65536).tdiv 8 ∧ ((1 + r) * 65536).tdiv 8 ≤ 1048576 := by
  rw [Int.tdiv_eq_ediv_of_nonneg (by omega)]
  omega
theorem shA_ok (l : List Int) : ∀ k, k ≤ nJ l 0 → ∀ s ∈ (shA l k).1, SpOK (nJ l 0) s
  | 0, _, s, h => by cases h
  | k + 1, hk, s, h => by
    unfold shA at h
    split at h
    · rcases List.mem_append.1 h with h | h
      · exact shA_ok l k (by omega) s h
      · obtain rfl := List.mem_singleton.1 h
        have r1 := srcR_bnd l ((shA l k).2 + 1) (k := 3) (by decide)
        have r2 := srcR_bnd l ((shA l k).2 + 2) (k := 4) (by decide)
        have hp := ptsN_b l ((shA l k).2 + 3)
        refine ⟨by unfold linkSp; dsimp only; omega, rad_b (by omega), by unfold linkSp; dsimp only; rw [ptsOf_len]; omega, ptsOf_b (by dsimp only; omega) _⟩
    · exact shA_ok l k (by omega) s h
theorem shB_ok (l : List Int) : ∀ k, ∀ s ∈ (shB l k).1, SpOK (nJ l 0) s
  | 0, s, h => shA_ok l _ (Nat.le_refl _) s h
  | k + 1, s, h => by
    rcases List.mem_append.1 (show s ∈ (shB l k).1 ++ [_] from h) with h | h
    · exact shB_ok l k s h
    · obtain rfl := List.mem_singleton.1 h
      have r1 := srcR_bnd l ((shB l k).2 + 3) (k := 4) (by decide)
      have r2 := srcR_bnd l (shB l k).2 (k := 2 * 9 + 1) (by decide)
      have r3 := srcR_bnd l ((shB l k).2 + 1) (k := 2 * 9 + 1) (by decide)
      have r4 := srcR_bnd l ((shB l k).2 + 2) (k := 2 * 2 + 1) (by decide)
      have hp := ptsN_b l ((shB l k).2 + 4)
      have hn := nJ_b l 0
      refine ⟨by unfold obSp; dsimp only; omega, rad_b (by omega), by unfold obSp; dsimp only; rw [ptsOf_len]; omega, ptsOf_b (by unfold srcS; dsimp only; omega) _⟩
theorem skR_ok (l : List Int) : (skR l).length = skN l ∧ skN l ≤ 64 ∧ ∀ r ∈ skR l, ∃ a b : Int, r = [.int .i64 a, .int .i64 b] ∧ (-1 ≤ a ∧ a < (nJ l 0 : Int)) ∧ (-1 ≤ b ∧ b < (nJ l 0 : Int)) := by
  have hn := nJ_b l 0
  have hr := srcR_bnd l (scQ l + 1) (k := (nJ l 0 : Int)) (by omega)
  by_cases h : srcR l (scQ l) 5 = 1
  · obtain ⟨h1, h2⟩ := sk_t h
    rw [h1, h2]
    refine ⟨rfl, by decide, fun r hr2 => ?_⟩
    obtain rfl := List.mem_singleton.1 hr2
    exact ⟨_, _, rfl, by omega, by omega⟩
  · obtain ⟨h1, h2⟩ := sk_f h
    rw [h1, h2]
    exact ⟨rfl, by decide, fun r hr2 => by cases hr2⟩
end Go.Sx

/- Told results in regions that draw: rules. For any program. No condition. -/
import Derived.Test.YtonampcmhhhffaaVSxSlc
namespace Go.Sx
open Go.RowKit
section
variable {P : Program} {n : Nat} {w0 : Base} {ops : Array Oper} {Q : Exit → Act → World → Prop} {S : Slots} {H : Heap}
variable {d : Nat} {ty : TypeId} {pos : String} {af : Array Edge} {g : Option (Nat × Bool)}
variable {X : Type} {Φ : X → Prop} {V : X → Value} {F : X → World → Prop}
variable {f : FuncId} {xs : List Operand} {ats : Array TypeId} {vs : List Value} {rest : List Oper} {G : Ghosts}

theorem doG_told {K : Slots → Ghosts → Prop} (he : Enters P f) (ha : evs S xs = some vs) (hc : ∀ w', Knows w0 H w' → Calls P f vs.toArray w' (RetsF Φ V F w'))
    (hw : wantedS ops S ⟨some d, .call ⟨.value (.func f), xs.toArray, ats⟩, ty, pos, af, g⟩ = some true) (hn : Nat.blt d n = true) (hno : look S d = none)
    (next : DoG P n w0 ops H K rest S ((d, false, TellT w0 H Φ V F) :: G)) : DoG P n w0 ops H K (⟨some d, .call ⟨.value (.func f), xs.toArray, ats⟩, ty, pos, af, g⟩ :: rest) S G :=
  doG_t (opT_call he ha fun w' k => (hc w' k).mono fun e w'' ⟨x, hx, h1, h2, h3⟩ => ⟨V x, h1, h2, tell_of k hx (.inr trivial) h2.size h3⟩) stable_tell hw rfl hn hno next

variable {σ : Type} {b : Nat → Prop} {w1 : Base} {H0 : Heap} {Wf : σ → Base} {Hf : σ → Heap} {es : List Nat} {K : σ → Slots → Ghosts → Prop} {ix : Nat} {s s2 : σ}

theorem tell_fam {w w' : World} {x : X} (fam : Fam b w1 H0 Wf Hf) (k : Knows (Wf s) (Hf s) w) (hx : Φ x) (h : Told w.heap.size (F x) w') : TellT w1 H0 Φ V F (V x) w' := by
  obtain ⟨D, h1, h2, h3⟩ := h
  refine ⟨x, hx, rfl, D, h1, fun q hq => ⟨?_, (h2 q hq).2, fun y hy e => ?_, fun y hy hd => ?_⟩, h3⟩
  · have := k.grow.size
    rw [fam.size] at this
    exact Nat.le_trans this (h2 q hq).1
  · have hm : y.2.1 ∈ H0.map (·.2.1) := List.mem_map.2 ⟨y, hy, rfl⟩
    rw [← fam.adr s] at hm
    obtain ⟨z, hz, hze⟩ := List.mem_map.1 hm
    have := k.lt z hz
    have := (h2 q hq).1
    omega
  · rw [← fam.told s] at hy
    have := ((k.facts y hy).at' q hd).2.1
    have := (h2 q hq).1
    omega

/-- a call that changes the block, with a told result -/
theorem doM_tellE (fam : Fam b w1 H0 Wf Hf) (he : Enters P f) (ha : evs S xs = some vs)
    (hc : ∀ w, Knows (Wf s) (Hf s) w → Calls P f vs.toArray w (fun e w' => ∃ x, Φ x ∧ e = .returned (V x) ∧ GrowB b w w' ∧ Knows (Wf s2) (Hf s2) w' ∧ Told w.heap.size (F x) w'))
    (hw : wantedS ops S ⟨some d, .call ⟨.value (.func f), xs.toArray, ats⟩, ty, pos, af, g⟩ = some true) (hn : Nat.blt d n = true) (hno : look S d = none) (hi : es.contains ix = true)
    (next : DoM P n ops b Wf Hf H0 es K rest (ix + 1) s2 S ((d, false, TellT w1 H0 Φ V F) :: G)) :
    DoM P n ops b Wf Hf H0 es K (⟨some d, .call ⟨.value (.func f), xs.toArray, ats⟩, ty, pos, af, g⟩ :: rest) ix s S G := by
  refine ⟨d, TellT w1 H0 Φ V F, s2, rfl, by simpa using hn, rfl, stableB_tell fam, .inr ⟨hi, fun a w _ hkn k => ?_⟩, .inr (.inl ⟨hno, next⟩)⟩
  have h1 : ∀ t' ∈ Oper.looksAt ops ⟨some d, .call ⟨.value (.func f), xs.toArray, ats⟩, ty, pos, af, g⟩, ∀ v, look S t' = some v → a.tmps[t']? = some v := fun t' ht => (hkn t' ht).1
  refine ⟨wanted_know hw h1, ?_⟩
  rw [exec_know (known_evs ha) rfl h1, call_run he ha]
  exact ⟨GrowB.refl _ _, (hc w k).mono fun e w' ⟨x, hx, q1, q2, q3, q4⟩ => ⟨V x, q1, q2, tell_fam fam k hx q4, q3⟩⟩

theorem doM_toldA {B : Base} {bb i0 i j : Nat} {sl : Value} {L : List Int} {K : Nat → Slots → Ghosts → Prop} (hs : Src B.w bb sl L i0) (he : Enters P f) (ha : evs S xs = some vs) (hc : ∀ w', Src w' bb sl L i → Calls P f vs.toArray w' (RetsF Φ V F (srcW w' bb sl L j)))
    (hw : wantedS ops S ⟨some d, .call ⟨.value (.func f), xs.toArray, ats⟩, ty, pos, af, g⟩ = some true) (hn : Nat.blt d n = true) (hno : look S d = none) (hi : es.contains ix = true)
    (next : DoM P n ops (· = bb) (fun i => srcB B bb sl L i) (fun _ => H) H es K rest (ix + 1) j S ((d, false, TellT B H Φ V F) :: G)) :
    DoM P n ops (· = bb) (fun i => srcB B bb sl L i) (fun _ => H) H es K (⟨some d, .call ⟨.value (.func f), xs.toArray, ats⟩, ty, pos, af, g⟩ :: rest) ix i S G :=
  doM_tellE (famA hs H) he ha (fun w' k => (hc w' ((hs.w i).grow k.grow)).mono fun e w'' ⟨x, hx, h1, hg, ht⟩ => by
    obtain ⟨t0, hb⟩ := hs.blk
    have hsz : (srcW w' bb sl L j).heap.size = w'.heap.size := srcW_size _ _ _ _ _
    exact ⟨x, hx, h1, (GrowB.set bb w' _).trans (.of hg), (knows_setRow hb k).next hg, by rw [hsz] at ht; exact ht⟩) hw hn hno hi next
theorem doM_toldB {bb i0 i j : Nat} {sl : Value} {L : List Int} {K : Nat → Slots → Ghosts → Prop} {t0 : TypeId} (id : Nat) (hI : IntsAt w0.w w0.w.heap.size sl L) (hH : lookH H id = some (bb, srcC sl L i0, t0)) (he : Enters P f) (ha : evs S xs = some vs)
    (hc : ∀ w', Src w' bb sl L i → Calls P f vs.toArray w' (RetsF Φ V F (srcW w' bb sl L j)))
    (hw : wantedS ops S ⟨some d, .call ⟨.value (.func f), xs.toArray, ats⟩, ty, pos, af, g⟩ = some true) (hn : Nat.blt d n = true) (hno : look S d = none) (hi : es.contains ix = true)
    (next : DoM P n ops (· = bb) (fun _ => w0) (hfB H id sl L) H es K rest (ix + 1) j S ((d, false, TellT w0 H Φ V F) :: G)) :
    DoM P n ops (· = bb) (fun _ => w0) (hfB H id sl L) H es K (⟨some d, .call ⟨.value (.func f), xs.toArray, ats⟩, ty, pos, af, g⟩ :: rest) ix i S G :=
  doM_tellE (famB hH) he ha (fun w' k => by
    obtain ⟨h1, h2⟩ := hfB_spec hH i
    obtain ⟨h3, h4⟩ := k.at h2
    refine (hc w' ⟨⟨t0, h4⟩, intsAt_grow hI k.grow h3⟩).mono fun e w'' ⟨x, hx, he, hg, ht⟩ => ?_
    have hu : updH (hfB H id sl L i) id (srcC sl L j) = some (hfB H id sl L j) := (updH_updH h1).trans (hfB_spec hH j).1
    have hsz : (srcW w' bb sl L j).heap.size = w'.heap.size := srcW_size _ _ _ _ _
    exact ⟨x, hx, he, (GrowB.set bb w' _).trans (.of hg), (k.set h2 hu).next hg, by rw [hsz] at ht; exact ht⟩) hw hn hno hi next

theorem Yields.mono {w : World} {T T' : Pred} {r : Result Next} (h : Yields P w T r) (hT : ∀ v w', Grow w w' → T v w' → T' v w') : Yields P w T' r := by
  cases r with
  | ok x w' =>
    cases x <;> simp only [Yields] at h ⊢
    case value v => exact ⟨h.1, hT v w' h.1 h.2⟩
    case skip => exact ⟨h.1, hT undef w' h.1 h.2⟩
    case enter ff args => exact ⟨h.1, h.2.mono fun e w'' ⟨v, h1, h2, h3⟩ => ⟨v, h1, h2, hT v w'' (h.1.trans h2) h3⟩⟩
  | halt x w' => simp only [Yields] at h

/-- an operation over one slot that is told -/
theorem doM_map {o : Oper} {T : Pred} {V' : X → Value} (fam : Fam b w1 H0 Wf Hf) (t : Nat) (hG : lookG G t = some (TellT w1 H0 Φ V F)) (hsel : noSel o = true) (ho : ∀ s' x, Φ x → OpV P (Wf s') ((t, V x) :: S) (Hf s') o (V' x))
    (hw : ∀ u, wantedS ops ((t, u) :: S) o = some true) (hm : t ∈ o.looksAt ops) (hd : o.dst = some d) (hn : Nat.blt d n = true) (hno : look S d = none) (hi : es.contains ix = false)
    (next : DoM P n ops b Wf Hf H0 es K rest (ix + 1) s S ((d, false, TellT w1 H0 Φ V' F) :: G)) : DoM P n ops b Wf Hf H0 es K (o :: rest) ix s S G := by
  refine ⟨d, TellT w1 H0 Φ V' F, s, hd, by simpa using hn, hsel, stableB_tell fam, .inl ⟨hi, rfl, fun s' a w _ hkn k => ?_⟩, .inr (.inl ⟨hno, next⟩)⟩
  obtain ⟨u, hu, x, hx, hux, D, q1, q2, q3⟩ := (hkn t hm).2 _ hG
  subst hux
  have h1 : ∀ t' ∈ o.looksAt ops, ∀ v', look ((t, V x) :: S) t' = some v' → a.tmps[t']? = some v' := fun t' ht' v' hv' => by
    by_cases e : t = t'
    · subst e; rw [look_cons_same] at hv'; cases hv'; exact hu
    · rw [look_cons_ne _ _ e] at hv'; exact (hkn t' ht').1 v' hv'
  rw [wanted_know (hw (V x)) h1, if_pos rfl, exec_know (ho s' x hx).known hsel h1]
  refine ((ho s' x hx).run w k).mono fun v w' gr hv => ?_
  exact ⟨x, hx, hv, D, q1, fun q hq => ⟨(q2 q hq).1, Nat.lt_of_lt_of_le (q2 q hq).2.1 gr.size, (q2 q hq).2.2⟩, q1 _ _ (fun q hq => gr.block q (q2 q hq).2.1) q3⟩

/-- a new row over one slot that is told -/
def TellRow (w0 : Base) (H : Heap) {X : Type} (Φ : X → Prop) (F : X → World → Prop) (cs : X → List Value) (e : TypeId) (len : Nat) : Pred := fun u w =>
  ∃ x, Φ x ∧ (∃ D : Nat → Prop, Depends D (F x) ∧ (∀ k, D k → w0.w.heap.size ≤ k ∧ k < w.heap.size ∧ (∀ y ∈ H, y.2.1 ≠ k) ∧ ∀ y ∈ w0.R, ¬ y.2.1 k) ∧ F x w) ∧
    ∃ bb, u = .slice (some ⟨bb, 0, none⟩) len len ∧ (w0.w.heap.size ≤ bb ∧ ∀ y ∈ H, y.2.1 ≠ bb) ∧ w.heap[bb]? = some (.cells (cs x).toArray e)
theorem stableB_tellrow {cs : X → List Value} {e len : Nat} (fam : Fam b w1 H0 Wf Hf) : StableB b (TellRow w1 H0 Φ F cs e len) := fun u w w' ⟨x, hx, ⟨D, h1, h2, h3⟩, bb, q1, q2, q3⟩ gr => by
  have hnb : ∀ k, w1.w.heap.size ≤ k → (∀ y ∈ H0, y.2.1 ≠ k) → ¬ b k := fun k h4 h5 hb => by
    rcases fam.here k hb with h | h
    · omega
    · obtain ⟨y, hy, he⟩ := List.mem_map.1 h
      exact h5 y hy he
  exact ⟨x, hx, ⟨D, h1, fun k hk => ⟨(h2 k hk).1, Nat.lt_of_lt_of_le (h2 k hk).2.1 gr.size, (h2 k hk).2.2⟩, h1 _ _ (fun k hk => gr.block k (h2 k hk).2.1 (hnb k (h2 k hk).1 (h2 k hk).2.2.1)) h3⟩,
    bb, q1, q2, by rw [gr.block bb (heap_lt q3) (hnb bb q2.1 q2.2)]; exact q3⟩
theorem doM_rowmap {t e size len : Nat} {z : Value} {parts : List (Nat × Operand)} {vsX : X → List (Nat × Value)} {cs : X → List Value} (fam : Fam b w1 H0 Wf Hf) (tg : Nat) (hG : lookG G tg = some (TellT w1 H0 Φ V F)) (hs : slcB P t e size = true) (hz : zeroIs P e z) (hzs : Nat.beq z.cells.size size = true) (h0 : Nat.blt 0 size = true)
    (hl : Nat.ble (len * size) 16777216 = true) (h1 : Nat.blt 0 len = true) (hp : ∀ x, evp ((tg, V x) :: S) parts = some (vsX x)) (hf : ∀ x, fillV (rowPl len size) (rowZ z.cells.toList len) (vsX x) = some (cs x))
    (hw : ∀ u, wantedS ops ((tg, u) :: S) ⟨some d, .buildSlice t len parts.toArray, ty, pos, af, g⟩ = some true) (hm : tg ∈ Oper.looksAt ops ⟨some d, .buildSlice t len parts.toArray, ty, pos, af, g⟩) (hn : Nat.blt d n = true) (hno : look S d = none) (hi : es.contains ix = false)
    (next : DoM P n ops b Wf Hf H0 es K rest (ix + 1) s S ((d, false, TellRow w1 H0 Φ F cs e len) :: G)) : DoM P n ops b Wf Hf H0 es K (⟨some d, .buildSlice t len parts.toArray, ty, pos, af, g⟩ :: rest) ix s S G := by
  refine ⟨d, TellRow w1 H0 Φ F cs e len, s, rfl, by simpa using hn, rfl, stableB_tellrow fam, .inl ⟨hi, rfl, fun s' a w _ hkn k => ?_⟩, .inr (.inl ⟨hno, next⟩)⟩
  obtain ⟨u, hu, x, hx, hux, D, q1, q2, q3⟩ := (hkn tg hm).2 _ hG
  subst hux
  have hk1 : ∀ t' ∈ Oper.looksAt ops ⟨some d, .buildSlice t len parts.toArray, ty, pos, af, g⟩, ∀ v', look ((tg, V x) :: S) t' = some v' → a.tmps[t']? = some v' := fun t' ht' v' hv' => by
    by_cases e : tg = t'
    · subst e; rw [look_cons_same] at hv'; cases hv'; exact hu
    · rw [look_cons_ne _ _ e] at hv'; exact (hkn t' ht').1 v' hv'
  have op := opT_bslice (P := P) (w0 := Wf s') (H := Hf s') (d := d) (ty := ty) (pos := pos) (af := af) (g := g) hs hz hzs h0 hl h1 (hp x) (hf x)
  rw [wanted_know (hw (V x)) hk1, if_pos rfl, exec_know op.known rfl hk1]
  refine (op.run w k).mono fun v w' gr ⟨bb, r1, r2, r3, r4⟩ => ?_
  refine ⟨x, hx, ⟨D, q1, fun q hq => ⟨(q2 q hq).1, Nat.lt_of_lt_of_le (q2 q hq).2.1 gr.size, (q2 q hq).2.2⟩, q1 _ _ (fun q hq => gr.block q (q2 q hq).2.1) q3⟩, bb, r1, ⟨by rw [← fam.size s']; exact r2, fun y hy e => ?_⟩, r4⟩
  have hmm : y.2.1 ∈ H0.map (·.2.1) := List.mem_map.2 ⟨y, hy, rfl⟩
  rw [← fam.adr s'] at hmm
  obtain ⟨zz, hzz, hze⟩ := List.mem_map.1 hmm
  exact r3.1 zz hzz (hze.trans e)

theorem stableB_rowT {cs : List Value} {e len : Nat} (fam : Fam b w1 H0 Wf Hf) : StableB b (RowT w1 H0 cs e len) := fun u w w' ⟨bb, q1, q2, q3, q4⟩ gr =>
  ⟨bb, q1, q2, q3, by
    rw [gr.block bb (heap_lt q4) fun hb => ?_]
    · exact q4
    · rcases fam.here bb hb with h | h
      · omega
      · obtain ⟨y, hy, he⟩ := List.mem_map.1 h
        exact q3.1 y hy he⟩
theorem doM_bslice {t e size len : Nat} {z : Value} {parts : List (Nat × Operand)} {vs : List (Nat × Value)} {cs : List Value} (fam : Fam b w1 H0 Wf Hf) (hs : slcB P t e size = true) (hz : zeroIs P e z) (hzs : Nat.beq z.cells.size size = true) (h0 : Nat.blt 0 size = true)
    (hl : Nat.ble (len * size) 16777216 = true) (h1 : Nat.blt 0 len = true) (hp : evp S parts = some vs) (hf : fillV (rowPl len size) (rowZ z.cells.toList len) vs = some cs)
    (hw : wantedS ops S ⟨some d, .buildSlice t len parts.toArray, ty, pos, af, g⟩ = some true) (hn : Nat.blt d n = true) (hno : look S d = none) (hi : es.contains ix = false)
    (next : DoM P n ops b Wf Hf H0 es K rest (ix + 1) s S ((d, false, RowT w1 H0 cs e len) :: G)) : DoM P n ops b Wf Hf H0 es K (⟨some d, .buildSlice t len parts.toArray, ty, pos, af, g⟩ :: rest) ix s S G := by
  refine ⟨d, RowT w1 H0 cs e len, s, rfl, by simpa using hn, rfl, stableB_rowT fam, .inl ⟨hi, rfl, fun s' a w _ hkn k => ?_⟩, .inr (.inl ⟨hno, next⟩)⟩
  have hk1 : ∀ t' ∈ Oper.looksAt ops ⟨some d, .buildSlice t len parts.toArray, ty, pos, af, g⟩, ∀ v', look S t' = some v' → a.tmps[t']? = some v' := fun t' ht' => (hkn t' ht').1
  have op := opT_bslice (P := P) (w0 := Wf s') (H := Hf s') (d := d) (ty := ty) (pos := pos) (af := af) (g := g) hs hz hzs h0 hl h1 hp hf
  rw [wanted_know hw hk1, if_pos rfl, exec_know op.known rfl hk1]
  refine (op.run w k).mono fun v w' gr ⟨bb, r1, r2, r3, r4⟩ => ⟨bb, r1, by rw [← fam.size s']; exact r2, ⟨fun y hy e => ?_, fun y hy hd => r3.2 y (by rw [fam.told s']; exact hy) hd⟩, r4⟩
  have hmm : y.2.1 ∈ H0.map (·.2.1) := List.mem_map.2 ⟨y, hy, rfl⟩
  rw [← fam.adr s'] at hmm
  obtain ⟨zz, hzz, hze⟩ := List.mem_map.1 hmm
  exact r3.1 zz hzz (hze.trans e)

variable {tl : List Oper} {Fw : World → Prop}
/-- the tail forgets a slot that was told -/
theorem tail_drop {x : Nat × Bool × Pred} (h : Tail P n w0 ops Q tl Fw S H G) : Tail P n w0 ops Q tl Fw S H (x :: G) := fun a w f k hx hap hH hF =>
  h a w f k (fun y hy => hx y (List.mem_cons_of_mem _ hy)) (fun y hy z hz => hap y (List.mem_cons_of_mem _ hy) z (List.mem_cons_of_mem _ hz)) (fun y hy => hH y (List.mem_cons_of_mem _ hy)) hF
theorem knows_told {w : World} {D : Nat → Prop} {FF : World → Prop} (k : Knows w0 H w) (id : Nat) (h1 : Depends D FF) (h2 : ∀ q, D q → w0.w.heap.size ≤ q ∧ q < w.heap.size ∧ (∀ y ∈ H, y.2.1 ≠ q) ∧ ∀ y ∈ w0.R, ¬ y.2.1 q) (h3 : FF w) : Knows ⟨w0.w, (id, D, FF) :: w0.R⟩ H w :=
  ⟨k.grow, k.has, k.nodup, fun x hx => by
    rcases List.mem_cons.1 hx with rfl | hx
    · exact ⟨h1, fun q hq => ⟨(h2 q hq).1, (h2 q hq).2.1, (h2 q hq).2.2.1⟩, h3⟩
    · exact k.facts x hx, List.Pairwise.cons (fun y hy q hq hd => (h2 q hq).2.2.2 y hy hd) k.apart⟩
theorem tail_tell {w1 : Base} {H0 : Heap} (id : Nat) (hsz : w1.w.heap.size = w0.w.heap.size) (hR : w1.R = w0.R) (hA : H0.map (·.2.1) = H.map (·.2.1))
    (h : ∀ x D, Φ x → Tail P n ⟨w0.w, (id, D, F x) :: w0.R⟩ ops Q tl Fw ((d, V x) :: S) H []) : Tail P n w0 ops Q tl Fw S H ((d, false, TellT w1 H0 Φ V F) :: G) := fun a w f k hx _ _ hF => by
  obtain ⟨u, hu, x, hxx, hux, D, q1, q2, q3⟩ := hx _ List.mem_cons_self
  subst hux
  refine h x D hxx a w (fits_more f hu) (knows_told k id q1 (fun q hq => ⟨by rw [← hsz]; exact (q2 q hq).1, (q2 q hq).2.1, fun y hy e => ?_, fun y hy hd => (q2 q hq).2.2.2 y (by rw [hR]; exact hy) hd⟩) q3) (fun y hy => by cases hy) (fun y hy => by cases hy) (fun y hy => by cases hy) hF
  have hm : y.2.1 ∈ H.map (·.2.1) := List.mem_map.2 ⟨y, hy, rfl⟩
  rw [← hA] at hm
  obtain ⟨z, hz, hze⟩ := List.mem_map.1 hm
  exact (q2 q hq).2.2.1 z hz (hze.trans e)
theorem tail_tellrow {w1 : Base} {H0 : Heap} {cs : X → List Value} {e len : Nat} (id : Nat) (hsz : w1.w.heap.size = w0.w.heap.size) (hR : w1.R = w0.R) (hA : H0.map (·.2.1) = H.map (·.2.1))
    (h : ∀ x D bb, Φ x → Tail P n ⟨w0.w, (id, D, F x) :: w0.R⟩ ops Q tl (fun w => w.heap[bb]? = some (.cells (cs x).toArray e)) ((d, .slice (some ⟨bb, 0, none⟩) len len) :: S) H []) :
    Tail P n w0 ops Q tl Fw S H ((d, false, TellRow w1 H0 Φ F cs e len) :: G) := fun a w f k hx _ _ hF => by
  obtain ⟨u, hu, x, hxx, ⟨D, q1, q2, q3⟩, bb, hub, _, hblk⟩ := hx _ List.mem_cons_self
  subst hub
  refine h x D bb hxx a w (fits_more f hu) (knows_told k id q1 (fun q hq => ⟨by rw [← hsz]; exact (q2 q hq).1, (q2 q hq).2.1, fun y hy e => ?_, fun y hy hd => (q2 q hq).2.2.2 y (by rw [hR]; exact hy) hd⟩) q3) (fun y hy => by cases hy) (fun y hy => by cases hy) (fun y hy => by cases hy) hblk
  have hm : y.2.1 ∈ H.map (·.2.1) := List.mem_map.2 ⟨y, hy, rfl⟩
  rw [← hA] at hm
  obtain ⟨z, hz, hze⟩ := List.mem_map.1 hm
  exact (q2 q hq).2.2.1 z hz (hze.trans e)
/-- a plain new row of the head -/
theorem tail_row {w1 : Base} {H0 : Heap} {cs : List Value} {e len : Nat} (h : ∀ bb, Tail P n w0 ops Q tl (fun w => w.heap[bb]? = some (.cells cs.toArray e)) ((d, .slice (some ⟨bb, 0, none⟩) len len) :: S) H []) :
    Tail P n w0 ops Q tl Fw S H ((d, false, RowT w1 H0 cs e len) :: G) := fun a w f k hx _ _ hF => by
  obtain ⟨u, hu, bb, hub, _, _, hblk⟩ := hx _ List.mem_cons_self
  subst hub
  exact h bb a w (fits_more f hu) k (fun y hy => by cases hy) (fun y hy => by cases hy) (fun y hy => by cases hy) hblk
/-- the tail begins with an append of the new row -/
theorem tail_append {t e size bytes cap k m bb c2 : Nat} {e2 : TypeId} {a : Option Addr} {ys news : List Value} {x y : Operand} (id : Nat) (hB : appB P t e size bytes = true) (hR : lookR w0.R id = some (ownD a, OwnF 0 e size a cap k ys))
    (hx : ev S x = some (.slice a k cap)) (hy : ev S y = some (.slice (some ⟨bb, 0, none⟩) m c2)) (hm : Nat.blt 0 m = true) (hl : Nat.beq news.length (m * size) = true) (h1 : news.all Value.oneCell' = true)
    (h63 : k + m ≤ 9223372036854775807) (hby : (k + m) * bytes ≤ 140737488355328)
    (hw : wantedS ops S ⟨some d, .call ⟨.builtin .append, #[x, y], #[t, t]⟩, ty, pos, af, g⟩ = some true) (hn : Nat.blt d n = true)
    (next : ∀ a' cap' R', updR w0.R id (ownD a') (OwnF 0 e size a' cap' (k + m) (ys ++ news)) = some R' → DoL P n ⟨w0.w, R'⟩ ops Q tl ((d, .slice a' (k + m) cap') :: S) H) :
    Tail P n w0 ops Q (⟨some d, .call ⟨.builtin .append, #[x, y], #[t, t]⟩, ty, pos, af, g⟩ :: tl) (fun w => w.heap[bb]? = some (.cells news.toArray e2)) S H [] := fun act w fi hk _ _ _ hblk =>
  append_step hB hR hx hy hblk hm hl h1 h63 hby fi hk hw hn fun a' cap' R' act' w' h2 h3 h4 => next a' cap' R' h2 act' w' h3 h4

/-! ### the same over a source that came in -/
variable {B : Base} {sb si : Nat} {sl : Value} {L : List Int}
theorem doC_toOwnA {c : Code} {H' : Heap} {bb e : Nat} {cs : List Value} (id len size : Nat) (hH : lookH H id = some (bb, cs, e)) (hr : remH H id = some H') (hl : Nat.beq cs.length (len * size) = true) (hm : Nat.ble len 9223372036854775807 = true)
    (h : DoC P n (srcB ⟨B.w, (id, ownD (some ⟨bb, 0, none⟩), OwnF 0 e size (some ⟨bb, 0, none⟩) len len cs) :: B.R⟩ sb sl L si) Q c S H') : DoC P n (srcB B sb sl L si) Q c S H := doC_toOwn id len size hH hr hl hm h
theorem tail_appendA {t e size bytes cap k m bb c2 : Nat} {e2 : TypeId} {a : Option Addr} {ys news : List Value} {x y : Operand} (id : Nat) (hB : appB P t e size bytes = true) (hR : lookR B.R id = some (ownD a, OwnF 0 e size a cap k ys))
    (hx : ev S x = some (.slice a k cap)) (hy : ev S y = some (.slice (some ⟨bb, 0, none⟩) m c2)) (hm : Nat.blt 0 m = true) (hl : Nat.beq news.length (m * size) = true) (h1 : news.all Value.oneCell' = true)
    (h63 : k + m ≤ 9223372036854775807) (hby : (k + m) * bytes ≤ 140737488355328)
    (hw : wantedS ops S ⟨some d, .call ⟨.builtin .append, #[x, y], #[t, t]⟩, ty, pos, af, g⟩ = some true) (hn : Nat.blt d n = true)
    (next : ∀ a' cap' R', updR B.R id (ownD a') (OwnF 0 e size a' cap' (k + m) (ys ++ news)) = some R' → DoL P n (srcB ⟨B.w, R'⟩ sb sl L si) ops Q tl ((d, .slice a' (k + m) cap') :: S) H) :
    Tail P n (srcB B sb sl L si) ops Q (⟨some d, .call ⟨.builtin .append, #[x, y], #[t, t]⟩, ty, pos, af, g⟩ :: tl) (fun w => w.heap[bb]? = some (.cells news.toArray e2)) S H [] :=
  tail_append (w0 := srcB B sb sl L si) id hB hR hx hy hm hl h1 h63 hby hw hn next
theorem doL_appendA {t e size bytes id2 cap k m b2 c2 : Nat} {e2 : TypeId} {a : Option Addr} {ys news : List Value} {x y : Operand} (id : Nat) (hB : appB P t e size bytes = true) (hR : lookR B.R id = some (ownD a, OwnF 0 e size a cap k ys))
    (hx : ev S x = some (.slice a k cap)) (hy : ev S y = some (.slice (some ⟨b2, 0, none⟩) m c2)) (hH : lookH H id2 = some (b2, news, e2)) (hm : Nat.blt 0 m = true) (hl : Nat.beq news.length (m * size) = true) (h1 : news.all Value.oneCell' = true)
    (h63 : k + m ≤ 9223372036854775807) (hby : (k + m) * bytes ≤ 140737488355328)
    (hw : wantedS ops S ⟨some d, .call ⟨.builtin .append, #[x, y], #[t, t]⟩, ty, pos, af, g⟩ = some true) (hn : Nat.blt d n = true)
    (next : ∀ a' cap' R', updR B.R id (ownD a') (OwnF 0 e size a' cap' (k + m) (ys ++ news)) = some R' → DoL P n (srcB ⟨B.w, R'⟩ sb sl L si) ops Q rest ((d, .slice a' (k + m) cap') :: S) H) :
    DoL P n (srcB B sb sl L si) ops Q (⟨some d, .call ⟨.builtin .append, #[x, y], #[t, t]⟩, ty, pos, af, g⟩ :: rest) S H :=
  doL_append (w0 := srcB B sb sl L si) id hB hR hx hy hH hm hl h1 h63 hby hw hn next

/-! ### facts joined -/
theorem Knows.merge {wb : World} {w : World} {i1 id : Nat} {D1 D2 : Nat → Prop} {F1 F2 F' : World → Prop} {R R' : Facts} (k : Knows ⟨wb, (i1, D1, F1) :: R⟩ H w) (hR : lookR R id = some (D2, F2)) (hu : updR R id (fun q => D1 q ∨ D2 q) F' = some R')
    (hD : Depends D1 F1 → Depends D2 F2 → Depends (fun q => D1 q ∨ D2 q) F') (hF : ∀ w, F1 w → F2 w → F' w) : Knows ⟨wb, R'⟩ H w := by
  obtain ⟨R1, R2, kk, x, e1, e2, e3⟩ := updR_spec hu
  rw [hR] at e3
  cases e3
  have hap := List.pairwise_cons.1 k.apart
  have hap0 := hap.2
  rw [e1] at hap0
  have hap1 := List.pairwise_append.1 hap0
  have hap2 := List.pairwise_cons.1 hap1.2.1
  have f1 := k.facts _ List.mem_cons_self
  have hm2 : (kk, D2, F2) ∈ R := by rw [e1]; simp
  have f2 := k.facts _ (List.mem_cons_of_mem _ hm2)
  have inR : ∀ y ∈ R1 ++ R2, y ∈ R := fun y hy => by
    rw [e1]
    rcases List.mem_append.1 hy with h | h
    · exact List.mem_append_left _ h
    · exact List.mem_append_right _ (List.mem_cons_of_mem _ h)
  refine ⟨k.grow, k.has, k.nodup, fun y hy => ?_, ?_⟩
  · have hy' : y ∈ R1 ++ (kk, (fun q => D1 q ∨ D2 q), F') :: R2 := by rw [← e2]; exact hy
    rcases List.mem_append.1 hy' with h | h
    · exact k.facts y (List.mem_cons_of_mem _ (inR y (List.mem_append_left _ h)))
    · rcases List.mem_cons.1 h with rfl | h
      · exact ⟨hD f1.dep f2.dep, fun q hq => hq.elim (f1.at' q) (f2.at' q), hF w f1.holds f2.holds⟩
      · exact k.facts y (List.mem_cons_of_mem _ (inR y (List.mem_append_right _ h)))
  · show R'.Pairwise _
    rw [e2]
    refine List.pairwise_append.2 ⟨hap1.1, List.pairwise_cons.2 ⟨fun y hy q hq hd => ?_, hap2.2⟩, fun y hy z hz q hyq hzq => ?_⟩
    · rcases hq with hq | hq
      · exact hap.1 y (inR y (List.mem_append_right _ hy)) q hq hd
      · exact hap2.1 y hy q hq hd
    · rcases List.mem_cons.1 hz with rfl | hz
      · rcases hzq with hq | hq
        · exact hap.1 y (inR y (List.mem_append_left _ hy)) q hq hyq
        · exact hap1.2.2 y hy _ List.mem_cons_self q hyq hq
      · exact hap1.2.2 y hy z (List.mem_cons_of_mem _ hz) q hyq hzq
theorem doC_merge {c : Code} {wb : World} {i1 : Nat} {D1 D2 : Nat → Prop} {F1 F2 : World → Prop} {R R' : Facts} (id : Nat) (F' : World → Prop) (hR : lookR R id = some (D2, F2)) (hu : updR R id (fun q => D1 q ∨ D2 q) F' = some R')
    (hD : Depends D1 F1 → Depends D2 F2 → Depends (fun q => D1 q ∨ D2 q) F') (hF : ∀ w, F1 w → F2 w → F' w) (h : DoC P n ⟨wb, R'⟩ Q c S H) : DoC P n ⟨wb, (i1, D1, F1) :: R⟩ Q c S H := fun a w f k => h a w f (k.merge hR hu hD hF)
theorem doC_fact {c : Code} (id : Nat) (F' : World → Prop) (hF : ∀ w, F' w) (h : DoC P n ⟨w0.w, (id, (fun _ => False), F') :: w0.R⟩ Q c S H) : DoC P n w0 Q c S H := fun a w f k =>
  h a w f ⟨k.grow, k.has, k.nodup, fun x hx => by
    rcases List.mem_cons.1 hx with rfl | hx
    · exact ⟨fun _ w' _ _ => hF w', fun q hq => hq.elim, hF w⟩
    · exact k.facts x hx, List.Pairwise.cons (fun y _ q hq => hq.elim) k.apart⟩
end
end Go.Sx

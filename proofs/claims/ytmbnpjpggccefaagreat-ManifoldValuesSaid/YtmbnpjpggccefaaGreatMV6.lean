/- Part 6 of the texts behind the last one: rules and contracts. No condition. -/
import Derived.Test.YtmbnpjpggccefaaGreatMV5
namespace Go.Rx
open Go.RowKit Go.Sx
section
variable {P : Program} {E : Env} {n : Nat} {C : Cx} {ρ : Own} {F : Nat → Prop} {σ : St} {a : Act} {w : World}
theorem put_same {t : Nat} {v : Value} (h : a.tmps[t]? = some v) : a.put (some t) v = a := by
 have : a.tmps.setIfInBounds t v = a.tmps := by
  refine Array.ext_getElem? fun i => ?_
  rw [Array.getElem?_setIfInBounds]
  split
  ·rename_i e
   subst e
   have hl := (Array.getElem?_eq_some_iff.1 h).1
   rw [if_pos hl, h]
  ·rfl
 simp [Act.put, this]
theorem dst_of (h : Rel' E n ρ F σ a w) {t : Nat} {v : Value} (hv : a.tmps[t]? = some v) : dstB n (some t) = true := by
 have hl := (Array.getElem?_eq_some_iff.1 hv).1
 rw [h.size] at hl
 simpa [dstB] using hl
theorem Rel'.tell (h : Rel' E n ρ F σ a w) {t : Nat} (ht : lookS σ.S t = some .nl) : Rel' E n ρ F (σ.apply (.val (.v (.l []))) (some t)) a w := by
 obtain ⟨v, hv, hr⟩ := h.slots t _ ht
 have hr' : v = .slice none 0 0 := hr
 subst hr'
 have := h.val (Grow.refl w) (fun _ h => h) (fun _ h => .inl h) (x := .v (.l [])) (v := .slice none 0 0) (RP.l0 _ _) (dst_of h hv)
 rwa [put_same hv] at this
theorem frzL_rel : ∀ (l : List Nat) {σ : St}, Rel E C.n σ a w → Rel E C.n (frzL l σ) a w
 | [], σ, h => h
 | t :: l, σ, h => by
  simp only [frzL]
  split
  ·rename_i hx
   obtain ⟨ρ, F, h⟩ := h
   exact frzL_rel l ⟨ρ, F, h.tell hx⟩
  ·rename_i id hx
   split
   ·rename_i e sz rows hl
    obtain ⟨ρ, F, h⟩ := h
    exact frzL_rel l ⟨_, _, h.froze [(id, rows)] (fun r hr => by simp only [List.mem_singleton] at hr; subst hr; exact ⟨e, sz, hl⟩)⟩
   ·exact frzL_rel l h
  ·exact frzL_rel l h
theorem ownL_rel : ∀ (l : List (Nat × Nat × Nat × Nat)) {σ : St}, Rel E C.n σ a w → Rel E C.n (ownL l σ) a w
 | [], σ, h => h
 | (t, id, e, sz) :: l, σ, h => by
  simp only [ownL]
  split
  ·rename_i hx hl
   cases hz : Nat.blt 0 sz with
   | false => exact ownL_rel l h
   | true =>
    have hz' : 0 < sz := by rw [Nat.blt_eq] at hz; exact hz
    obtain ⟨ρ, F, h⟩ := h
    obtain ⟨v, hv, hr⟩ := h.slots t _ hx
    have hr' : v = .slice none 0 0 := hr
    subst hr'
    have := h.adopt (id := id) hl (ent := .reg e sz []) (L := .reg none 0 0 sz) (x := .o id) (v := .slice none 0 0) (Grow.refl w) (fun _ h => h) (fun _ h => .inl h) (fun b hb => by cases hb)
     ⟨none, 0, [], qZZ _ _ _, hz', Al.nil, (fun r hr => by cases hr), (fun r hr => by cases hr), ⟨by simp, .inl (by simp)⟩⟩ ⟨_, _, _, _, qZZ _ _ _, rfl⟩ (dst_of h hv)
    rw [put_same hv] at this
    exact ownL_rel l ⟨_, _, this⟩
  ·exact ownL_rel l h
def inI (ids : List Nat) (i : Nat) : Bool := ids.any (Nat.beq i)
theorem inI_iff {ids : List Nat} {i : Nat} : inI ids i = true ↔ i ∈ ids := by
 simp only [inI, List.any_eq_true]
 constructor
 ·rintro ⟨x, hx, he⟩; rw [Nat.eq_of_beq_eq_true he]; exact hx
 ·intro h; exact ⟨i, h, Nat.beq_refl i⟩
def onlyρ (ids : List Nat) (ρ : Own) : Own := fun id => if id ∈ ids then ρ id else none
theorem qHU {ids : List Nat} {id : Nat} (h : id ∈ ids) : onlyρ ids ρ id = ρ id := by simp only [onlyρ, if_pos h]
theorem onlyρ_some {ids : List Nat} {id : Nat} {L : Loc} (h : onlyρ ids ρ id = some L) : id ∈ ids ∧ ρ id = some L := by
 unfold onlyρ at h
 split at h
 ·rename_i hm; exact ⟨hm, h⟩
 ·cases h
theorem only_rel {ids : List Nat} {x : HV} {v : Value} (h : RH ρ F w x v) : RH (onlyρ ids ρ) F w (x.only ids) v := by
 unfold HV.only
 cases hc : x.every.all (fun i => ids.any (Nat.beq i)) with
 | false => trivial
 | true =>
  have hin : ∀ i ∈ x.every, i ∈ ids := fun i hi => inI_iff.1 (List.all_eq_true.1 hc i hi)
  simp only [cond_true]
  cases x with
  | v x => exact h
  | nl => exact h
  | un => trivial
  | o id =>
   obtain ⟨ad, c, k, sz, h1, h2⟩ := h
   exact ⟨ad, c, k, sz, by rw [qHU (hin id (by simp [HV.every]))]; exact h1, h2⟩
  | p id off =>
   obtain ⟨b, h1, h2⟩ := h
   exact ⟨b, by rw [qHU (hin id (by simp [HV.every]))]; exact h1, h2⟩
  | q id j off =>
   obtain ⟨b, c, k, sz, h1, h2⟩ := h
   exact ⟨b, c, k, sz, by rw [qHU (hin id (by simp [HV.every]))]; exact h1, h2⟩
  | g fn first cap =>
   obtain ⟨fs, cs, h1, h2, h3⟩ := h
   refine ⟨fs, cs, h1, h2, h3.imp fun c v hm hr => ?_⟩
   cases c with
   | v x => exact hr
   | p id off =>
    obtain ⟨b, h4, h5⟩ := hr
    exact ⟨b, by rw [qHU (hin id (mem_catL.2 ⟨_, hm, by simp [Cap.every]⟩))]; exact h4, h5⟩
theorem only_ent {ids : List Nat} {id : Nat} {e : Ent} (hid : id ∈ ids) (h : EntOk ρ F w id e) : EntOk (onlyρ ids ρ) F w id (e.only ids) := by
 cases e with
 | blk cells =>
  obtain ⟨b, vs, ty, h1, h2, h3, h4⟩ := h
  exact ⟨b, vs, ty, by rw [qHU hid]; exact h1, h2, Al.map_left (h3.imp fun _ _ _ h => only_rel h), h4⟩
 | reg e sz rows =>
  obtain ⟨ad, c, vr, h1, h2⟩ := h
  exact ⟨ad, c, vr, by rw [qHU hid]; exact h1, h2⟩
 | itr s pos =>
  obtain ⟨b, h1, h2⟩ := h
  exact ⟨b, by rw [qHU hid]; exact h1, h2⟩
theorem keepI_look {M : Mem} {ids : List Nat} {i : Nat} {x : Ent} (h : lookM (keepI M ids) i = some x) : i ∈ ids ∧ lookM M i = some x := by
 induction ids with
 | nil => cases h
 | cons t ts ih =>
  simp only [keepI] at h
  split at h
  ·rename_i y hy
   by_cases e : t = i
   ·subst e
    simp only [lookM, Nat.beq_refl, cond_true, Option.some.injEq] at h
    subst h
    exact ⟨List.mem_cons_self, hy⟩
   ·simp only [lookM, qWV e, cond_false] at h
    exact ⟨List.mem_cons_of_mem _ (ih h).1, (ih h).2⟩
  ·exact ⟨List.mem_cons_of_mem _ (ih h).1, (ih h).2⟩
theorem keepI_mem {M : Mem} {ids : List Nat} {i : Nat} {x : Ent} (hm : i ∈ ids) (h : lookM M i = some x) : lookM (keepI M ids) i = some x := by
 induction ids with
 | nil => cases hm
 | cons t ts ih =>
  simp only [keepI]
  by_cases e : t = i
  ·subst e; rw [h]; simp [lookM]
  ·have hm' : i ∈ ts := by
    rcases List.mem_cons.1 hm with h | h
    ·exact absurd h.symm e
    ·exact h
   split
   ·simp only [lookM, qWV e, cond_false]; exact ih hm'
   ·exact ih hm'
theorem keepL_look {ts : List Nat} {t : Nat} {x : HV} (h : lookS (keepL σ ts) t = some x) : lookS σ.S t = some x := by
 induction ts with
 | nil => cases h
 | cons u ts ih =>
  simp only [keepL] at h
  split at h
  ·rename_i y hy
   by_cases e : u = t
   ·subst e
    rw [lookS_same] at h; cases h; exact hy
   ·rw [lookS_ne e] at h; exact ih h
  ·exact ih h
theorem prune_rel {hi : Hint} (h : Rel E C.n σ a w) : Rel E C.n (prune hi σ) a w := by
 have h1 := ownL_rel (C := C) hi.own (frzL_rel (C := C) hi.frz h)
 unfold prune
 generalize ownL hi.own (frzL hi.frz σ) = τ at h1
 obtain ⟨ρ, F, h⟩ := h1
 refine ⟨onlyρ (pid :: hi.ids) ρ, F, h.size, h.defers, fun t x hx => ?_, ⟨fun id e hl => ?_, fun id L hL => ?_, fun id id' L L' b h1 h2 => ?_, fun id L b hL hb => ?_, h.mem.fz, h.mem.fz0, h.mem.grow, fun b hb => ?_⟩⟩
 ·simp only [lookS_map, Option.map_eq_some_iff] at hx
  obtain ⟨y, hy, rfl⟩ := hx
  obtain ⟨v, hv, hr⟩ := h.slots t y (keepL_look hy)
  exact ⟨v, hv, only_rel hr⟩
 ·simp only [lookM_map, Option.map_eq_some_iff] at hl
  obtain ⟨y, hy, rfl⟩ := hl
  obtain ⟨k1, k2⟩ := keepI_look hy
  exact only_ent k1 (h.mem.ent id y k2)
 ·obtain ⟨k1, k2⟩ := onlyρ_some hL
  obtain ⟨e, he⟩ := h.mem.dom id L k2
  exact ⟨_, by simp only [lookM_map]; rw [keepI_mem k1 he]; rfl⟩
 ·exact h.mem.apart id id' L L' b (onlyρ_some h1).2 (onlyρ_some h2).2
 ·exact h.mem.off id L b (onlyρ_some hL).2 hb
 ·rw [qHU List.mem_cons_self]; exact h.mem.pin b hb
def exOf : Ex → Exit
 | .normal => .normal
 | .exit id => .exit id
 | .ret => .ret
theorem pruneX_rel {hi : Hint} (h : Rel E C.n σ a w) : Rel E C.n (qVU hi σ) a w := by
 unfold qVU
 split
 ·exact h
 ·exact prune_rel h
theorem runC_sound {N : Nat} {r : Ret × Mem} (hT : TabOk P C.T) (hE : E.D = Harm P) (hA : SndA P C.cA) (hB : SndB P C.cB) (hm : P.follows .mixedOrders = true) : ∀ (c : Code) (K : Ex → St → Option (Ret × Mem)) (σ : St) (a : Act) (w : World) (Q : Exit → Act → World → Prop), runC N C c K σ = some r → Rel E C.n σ a w →
  (∀ e τ a w, K e τ = some r → Rel E C.n τ a w → Q (exOf e) a w) → c.wp P Q a w := by
 intro c
 induction c with
 | skip => intro K σ a w Q h hr hK; exact wp_skip (hK .normal σ a w h hr)
 | label l => intro K σ a w Q h hr hK; exact wp_label (hK .normal σ a w h hr)
 | scope x ih =>
  intro K σ a w Q h hr hK
  exact wp_scope_straight (ih K σ a w _ h hr fun e τ a w hk hr' => by cases e <;> exact hK _ τ a w hk hr')
 | ret => intro K σ a w Q h hr hK; exact wp_ret (hK .ret σ a w h hr)
 | exit id => intro K σ a w Q h hr hK; exact wp_exit (hK (.exit id) σ a w h hr)
 | region id ops d =>
  intro K σ a w Q h hr hK
  cases d with
  | true =>
   simp only [runC, cond_true] at h
   exact wp_draw hm (sim_all hT hE hA hB) h hr (fun h => h.grow (Grow.drew (Grow.refl _))) fun τ a w hk hr => hK .normal τ a w hk hr
  | false =>
   simp only [runC, cond_false] at h
   exact wp_region_list (wp_seqr (sim_all hT hE hA hB) (fun τ a w hk hr => hK .normal τ a w hk hr) _ _ _ _ h hr)
 | seq x y ihx ihy =>
  intro K σ a w Q h hr hK
  refine wp_seq (ihx _ σ a w _ h hr fun e τ a' w' hk hr' => ?_)
  cases e with
  | normal => exact ihy K τ a' w' Q hk hr' hK
  | exit id => exact hK (.exit id) τ a' w' hk hr'
  | ret => exact hK .ret τ a' w' hk hr'
 | cond c x y ihx ihy =>
  intro K σ a w Q h hr hK
  simp only [runC, Option.bind_eq_some_iff] at h
  obtain ⟨v, hv, h⟩ := h
  have hr0 := hr
  obtain ⟨ρ, F, hr'⟩ := hr
  obtain ⟨u, u1, u2, u3⟩ := uU hr' hv
  split at h
  ·rename_i t
   have := qHV u2
   subst this
   refine wp_cond (t := t) (qUV hr' u1) ?_
   cases t with
   | true => exact ihx K σ a w Q h hr0 hK
   | false => exact ihy K σ a w Q h hr0 hK
  ·cases h
 | block id x ih =>
  intro K σ a w Q h hr hK
  refine wp_block (ih _ σ a w _ h hr fun e τ a' w' hk hr' => ?_)
  cases e with
  | normal => exact hK .normal τ a' w' hk hr'
  | ret => exact hK .ret τ a' w' hk hr'
  | exit id' =>
   simp only at hk
   by_cases e : id' = id
   ·subst e
    rw [Nat.beq_refl] at hk
    simpa [exOf, Exit.inBlock] using hK .normal τ a' w' hk hr'
   ·rw [qWV e] at hk
    simpa [exOf, Exit.inBlock, e] using hK (.exit id') τ a' w' hk hr'
 | loop x ih =>
  intro K σ a w Q h hr hK
  simp only [runC] at h
  have key : ∀ M σ a w, loopN (fun again σ => runC N C x (fun e σ => match e with
   | .normal => again σ
   | e => K e (qVU (C.T.hint C.me (kK x)) σ)) (prune (C.T.hint C.me (kK x)) σ)) M σ = some r → Rel E C.n σ a w → Code.rounds P x Q M a w := by
   intro M
   induction M with
   | zero => intro σ a w h; cases h
   | succ M ihM =>
    intro σ a w h hr
    rw [rounds_succ]
    refine ih _ _ a w _ h (prune_rel hr) fun e τ a' w' hk hr' => ?_
    cases e with
    | normal => exact ihM τ a' w' hk hr'
    | exit id => exact hK (.exit id) _ a' w' hk (pruneX_rel hr')
    | ret => exact hK .ret _ a' w' hk (pruneX_rel hr')
  exact wp_loop_rounds N (key N σ a w h hr)
 | _ => intro K σ a w Q h; simp only [runC] at h; cases h
end
end Go.Rx
namespace Go.Rx
open Go.RowKit Go.Sx
section
variable {P : Program} {E : Env} {T : Tab} {ρ : Own} {F : Nat → Prop} {σ : St} {a : Act} {w : World}
theorem al_fz {M : Mem} {cs : List CV} {ps : List PV} {us : List Value} {F' : Nat → Prop} (hm : MemOk E ρ F M w) (hF : ∀ k, F k → F' k) (hall : ∀ id ad c k s b, ρ id = some (.reg ad c k s) → ad.map (·.block) = some b → F' b) (hcv : Al (fun c v => RH ρ F w c.back v ∧ ∀ id e sz rows, c = .o id e sz rows → lookM M id = some (.reg e sz rows)) cs us) (hp : mapO CV.fz cs = some ps) : Al (RP F' w) ps us := by
 have h1 := uH hp
 refine ⟨by rw [← h1.1, hcv.1], fun i p v hpi hv => ?_⟩
 have hil := (List.getElem?_eq_some_iff.1 hpi).1
 have hl : i < cs.length := by rw [h1.1]; exact hil
 have hfz := h1.2 i _ p (List.getElem?_eq_getElem hl) hpi
 obtain ⟨hrh, ho⟩ := hcv.2 i _ v (List.getElem?_eq_getElem hl) hv
 generalize cs[i] = c at hfz hrh ho
 unfold CV.fz at hfz
 split at hfz
 ·cases hfz; exact RP.mono (fun k hk => ⟨hF k hk, rfl⟩) hrh
 ·cases hfz; have : v = .slice none 0 0 := hrh; subst this; exact .l0 _ _
 ·rename_i id e' sz rows
  cases hfz
  obtain ⟨ad, c', k, sz', hρ, rfl⟩ := hrh
  exact (qKU (hm.ent id _ (ho _ _ _ _ rfl)) hF (fun L b hL hb => by rw [hρ] at hL; cases hL; exact hall id _ _ _ _ b hρ hb) ad c' k sz' hρ).1
 ·cases hfz
def ResR (E : Env) (ρ : Own) (F : Nat → Prop) (M : Mem) (w : World) (r : RV) (v : Value) : Prop :=
 (RH ρ F w r.back v ∧ RRes M r) ∨ (∃ p, r = .v p ∧ ∀ F' : Nat → Prop, (∀ k, F k → F' k) → (∀ id ad c k s b, ρ id = some (.reg ad c k s) → ad.map (·.block) = some b → F' b) → RP F' w p v)
theorem res_rel {n : Nat} (hT : TabOk P T) (h : Rel' E n ρ F σ a w) {x : ResultVar} {r : RV} (hx : resOf T σ x = some r) : ∃ v, (resF a.tmps x).run P w = .ok v w ∧ ResR E ρ F σ.M w r v := by
 cases x with
 | tmp t =>
  simp only [resOf, Option.bind_eq_some_iff] at hx
  obtain ⟨y, hy, hr⟩ := hx
  obtain ⟨v, hv, hrh⟩ := h.slots t y hy
  obtain ⟨hb, hres⟩ := res_spec hr
  refine ⟨v, by simp [resF, Array.getD_eq_getD_getElem?, hv], .inl ⟨by rw [hb]; exact hrh, hres⟩⟩
 | cell x t =>
  simp only [resOf, Option.bind_eq_some_iff] at hx
  obtain ⟨y, hy, p, hp, ⟨kb, k⟩, hk, hx⟩ := hx
  obtain ⟨v, hv, hrh⟩ := h.slots x y hy
  obtain ⟨hb, hres⟩ := res_spec hp
  rw [← hb] at hrh
  obtain ⟨hty, hk1⟩ := hT.sz t kb k hk
  cases p with
  | p id off cells =>
   obtain ⟨b, hρ, rfl⟩ := hrh
   obtain ⟨hc, hlk, hcc⟩ := hres
   obtain ⟨b2, us, ty', hρ2, hheap, hal, hone⟩ := h.mem.ent id _ hlk
   rw [hρ] at hρ2
   cases hρ2
   cases kb with
   | false =>
    have hk1' := hk1 rfl
    subst hk1'
    simp only [cond_false, Option.bind_eq_some_iff, Option.some.injEq] at hx
    obtain ⟨c, hcs, q, hq, rfl⟩ := hx
    have hcv := cvs_rel hcc hal
    obtain ⟨u, hu, hru⟩ := hcv.get hcs
    have hr := qYY (w := w) hheap off
    rw [hu] at hr
    refine ⟨u, by simp [resF, Array.getD_eq_getD_getElem?, hv, asAddr, loadVar, qGQ hty, hr], .inr ⟨_, rfl, fun F' hF hall => ?_⟩⟩
    exact (al_fz h.mem hF hall (cs := [c]) (us := [u]) ⟨rfl, fun i c' u' hc' hu' => by
     cases i with
     | zero => simp at hc' hu'; subst hc' hu'; exact hru
     | succ i => simp at hc'⟩ (ps := [q]) (by simp [mapO, hq])).2 0 q u rfl rfl
   | true =>
   simp only [cond_true, Option.bind_eq_some_iff, Option.some.injEq] at hx
   obtain ⟨cs, hcs, ps, hps, rfl⟩ := hx
   obtain ⟨rfl, hle⟩ := sliceL_spec hcs
   have hcv := cvs_rel hcc hal
   have hlen : cells.length = us.length := hcv.1
   have hr := run_load_agg (P := P) (w := w) (b := b) (off := off) (k := k) (vs := (us.drop off).take k) (fun i hi => by
    rw [qYY hheap]
    simp [List.getElem?_take, hi]) (by simp; omega)
   refine ⟨.agg ((us.drop off).take k).toArray, by simp [resF, Array.getD_eq_getD_getElem?, hv, asAddr, loadVar, qGQ hty, qWH hty, hr], .inr ⟨_, rfl, fun F' hF hall => ?_⟩⟩
   exact rp_of_al (al_fz h.mem hF hall ((hcv.drop off).take k) hps) fun u hu => hone u (List.mem_of_mem_drop (List.mem_of_mem_take hu))
  | _ => simp only at hx; cases hx
theorem ress_rel {n : Nat} (hT : TabOk P T) (h : Rel' E n ρ F σ a w) : ∀ {xs : List ResultVar} {rs : List RV}, mapO (resOf T σ) xs = some rs → ∃ vs, (xs.mapM (resF a.tmps)).run P w = .ok vs w ∧ Al (ResR E ρ F σ.M w) rs vs
 | [], rs, hx => by simp [mapO] at hx; subst hx; exact ⟨[], by simp, Al.nil⟩
 | x :: xs, rs, hx => by
  simp only [mapO, Option.bind_eq_some_iff, Option.some.injEq] at hx
  obtain ⟨r, hr, rs', hrs, rfl⟩ := hx
  obtain ⟨v, h1, h2⟩ := res_rel hT h hr
  obtain ⟨vs, h3, h4⟩ := ress_rel hT h hrs
  exact ⟨v :: vs, by simp [List.mapM_cons, Sem.run_bind, h1, h3], Al.cons h2 h4⟩
def outF (E : Env) (ρ : Own) (F : Nat → Prop) : Nat → Prop := fun k => F k ∨ ∃ id L, ρ id = some L ∧ L.bl = some k ∧ ¬ E.W k
theorem reg_W {M : Mem} (hm : MemOk E ρ F M w) {id : Nat} {ad : Option Addr} {c k s b : Nat} (h : ρ id = some (.reg ad c k s)) (hb : ad.map (·.block) = some b) : ¬ E.W b := fun hw => by
 have h1 := hm.pin b hw
 have := hm.apart id pid _ _ b h h1 hb rfl
 subst this
 rw [h] at h1; cases h1
theorem F_W {M : Mem} (hm : MemOk E ρ F M w) {k : Nat} (h : F k) : E.F0 k ∨ E.w0.heap.size ≤ k := by
 rcases (hm.fz k h).2 with h1 | h1 | h1
 ·exact .inl h1
 ·exact .inr h1
 ·exact absurd h (hm.off pid _ k (hm.pin k h1) rfl).1
theorem outF_new {M : Mem} (hm : MemOk E ρ F M w) {k : Nat} (h : outF E ρ F k) : E.F0 k ∨ (E.w0.heap.size ≤ k ∧ k < w.heap.size) := by
 rcases h with h | ⟨id, L, hL, hb, hW⟩
 ·rcases F_W hm h with h1 | h1
  ·exact .inl h1
  ·exact .inr ⟨h1, (hm.fz k h).1⟩
 ·have := hm.off id L k hL hb
  rcases this.2.2 with h1 | h1
  ·exact .inr ⟨h1, this.2.1⟩
  ·exact absurd h1 hW
theorem resR_fz {M : Mem} (hm : MemOk E ρ F M w) {r : RV} {p : PV} {v : Value} (hr : ResR E ρ F M w r v) (hp : r.fz = some p) (hs : r.still = true ∨ ∀ k, ¬ E.W k) : RP (outF E ρ F) w p v := by
 have hreg : ∀ id ad c k s b, ρ id = some (.reg ad c k s) → ad.map (·.block) = some b → outF E ρ F b := fun id ad c k s b h hb => .inr ⟨id, _, h, hb, reg_W hm h hb⟩
 rcases hr with ⟨h1, h2⟩ | ⟨p', rfl, h1⟩
 ·refine fz_rel hm (fun k hk => .inl hk) hp h1 h2 ?_
  rcases hs with hs | hs
  ·refine .inl ⟨hs, fun x hx L b hL hb => ?_⟩
   obtain ⟨e, sz, hl⟩ := regs_ok h2 x hx
   obtain ⟨ad, c, vr, hρ, _⟩ := hm.ent x.1 _ hl
   rw [hL] at hρ
   cases hρ
   exact hreg _ _ _ _ _ b hL hb
  ·exact .inr fun id L b hL hb => .inr ⟨id, L, hL, hb, hs b⟩
 ·cases hp; exact h1 _ (fun k hk => .inl hk) hreg
theorem ress_fz {M : Mem} (hm : MemOk E ρ F M w) : ∀ {rs : List RV} {ps : List PV} {vs : List Value}, Al (ResR E ρ F M w) rs vs → mapO RV.fz rs = some ps → (rs.all RV.still = true ∨ ∀ k, ¬ E.W k) → Al (RP (outF E ρ F) w) ps vs
 | [], ps, vs, hal, hp, _ => by cases hp; rw [hal.nil_left]; exact Al.nil
 | r :: rs, ps, vs, hal, hp, hs => by
  simp only [mapO, Option.bind_eq_some_iff, Option.some.injEq] at hp
  obtain ⟨p, hp, ps', hps, rfl⟩ := hp
  obtain ⟨v, vs', rfl, hr, hal'⟩ := hal.cons_left
  have h1 : r.still = true ∨ ∀ k, ¬ E.W k := hs.imp (fun h => by simp only [List.all_cons, Bool.and_eq_true] at h; exact h.1) id
  have h2 : rs.all RV.still = true ∨ ∀ k, ¬ E.W k := hs.imp (fun h => by simp only [List.all_cons, Bool.and_eq_true] at h; exact h.2) id
  exact Al.cons (resR_fz hm hr hp h1) (ress_fz hm hal' hps h2)
theorem ret_o {M : Mem} (hm : MemOk E ρ F M w) {id e sz : Nat} {rows : List (List PV)} {v : Value} (hr : ResR E ρ F M w (.o id e sz rows) v) : RRet F E.w0 w (.ow e sz rows) v := by
 rcases hr with ⟨h1, h2⟩ | ⟨p, hp, _⟩
 ·obtain ⟨ad, c, k, sz', hρ, rfl⟩ := h1
  obtain ⟨ad2, c2, vr, hρ2, h0, hal, hrl, hone, hown⟩ := hm.ent id _ h2
  rw [hρ] at hρ2
  cases hρ2
  refine ⟨ad, c, vr, rfl, h0, hal, hrl, hone, hown, fun b hb => ?_⟩
  have := hm.off id _ b hρ hb
  refine ⟨this.1, ?_, this.2.1⟩
  rcases this.2.2 with h | h
  ·exact h
  ·exact absurd h (reg_W hm hρ hb)
 ·cases hp
def regF (ρ : Own) (F : Nat → Prop) : Nat → Prop := fun k => F k ∨ ∃ id ad c n s, ρ id = some (.reg ad c n s) ∧ ad.map (·.block) = some k
theorem ret_p {M : Mem} (hm : MemOk E ρ F M w) {id : Nat} {cells : List CV} {ps : List PV} {v : Value} (hr : ResR E ρ F M w (.p id 0 cells) v) (hp : mapO CV.fz cells = some ps) (hW : ∀ k, ¬ E.W k) : RRet (regF ρ F) E.w0 w (.pb ps) v := by
 rcases hr with ⟨h1, h2⟩ | ⟨p, hp, _⟩
 ·obtain ⟨b, hρ, rfl⟩ := h1
  obtain ⟨hc, hlk, hcc⟩ := h2
  obtain ⟨b2, us, ty', hρ2, hheap, hal, hone⟩ := hm.ent id _ hlk
  rw [hρ] at hρ2
  cases hρ2
  have hoff := hm.off id _ b hρ rfl
  refine ⟨b, us, ty', rfl, hheap, al_fz hm (fun k hk => .inl hk) (fun id ad c k s b h hb => .inr ⟨id, ad, c, k, s, h, hb⟩) (cvs_rel hcc hal) hp, hone, fun hf => ?_, ?_, hoff.2.1⟩
  ·rcases hf with hf | ⟨id', ad, c, k, s, h, hb⟩
   ·exact hoff.1 hf
   ·have := hm.apart id id' _ _ b hρ h rfl hb
    subst this
    rw [hρ] at h; cases h
  ·exact hoff.2.2.resolve_right (hW b)
 ·cases hp
theorem valOf_eq {xs : List ResultVar} {vs : List Value} {fn : Func} (hfn : fn.results = xs.toArray) (h : (xs.mapM (resF a.tmps)).run P w = .ok vs w) : (results fn a.tmps).run P w = .ok (Sx.valOf vs) w := by
 unfold results
 rw [hfn]
 change Sem.run P (do let us ← xs.toArray.mapM (resF a.tmps); pure (if h : us.size = 1 then us[0] else .tuple us)) w = _
 simp only [Sem.run_bind, List.mapM_toArray, Sem.run_map, h, Result.andThen_ok]
 match vs with
 | [] => rfl
 | [v] => rfl
 | v :: u :: vs => simp [Sx.valOf]
theorem ret_all {M : Mem} (hm : MemOk E ρ F M w) {rs : List RV} {vs : List Value} {r : Ret} (hal : Al (ResR E ρ F M w) rs vs) (hr : retOf rs = some r) (hs : rs.all RV.still = true ∨ ∀ k, ¬ E.W k) :
  ∃ F', (∀ k, F k → F' k) ∧ (∀ k, F' k → E.F0 k ∨ (E.w0.heap.size ≤ k ∧ k < w.heap.size)) ∧ RRet F' E.w0 w r (Sx.valOf vs) := by
 have gen : ∀ ps, mapO RV.fz rs = some ps → Al (RP (outF E ρ F) w) ps vs := fun ps hps => ress_fz hm hal hps hs
 have tup : ∀ ps, mapO RV.fz rs = some ps → Sx.valOf vs = .tuple vs.toArray → r = .v (.t ps) → ∃ F', (∀ k, F k → F' k) ∧ (∀ k, F' k → E.F0 k ∨ (E.w0.heap.size ≤ k ∧ k < w.heap.size)) ∧ RRet F' E.w0 w r (Sx.valOf vs) := fun ps hps hv hr => by
  subst hr
  rw [hv]
  exact ⟨outF E ρ F, fun k hk => .inl hk, fun k hk => outF_new hm hk, .t ps vs (gen ps hps).1 (gen ps hps).2⟩
 have one : ∀ x p v, rs = [x] → vs = [v] → x.fz = some p → r = .v p → ∃ F', (∀ k, F k → F' k) ∧ (∀ k, F' k → E.F0 k ∨ (E.w0.heap.size ≤ k ∧ k < w.heap.size)) ∧ RRet F' E.w0 w r (Sx.valOf vs) := fun x p v hx hv hp hr => by
  subst hr hx hv
  have := gen [p] (by simp [mapO, hp])
  exact ⟨outF E ρ F, fun k hk => .inl hk, fun k hk => outF_new hm hk, this.2 0 p v rfl rfl⟩
 cases rs with
 | nil =>
  have := hal.nil_left
  subst this
  simp only [retOf, mapO, Option.bind_some, Option.some.injEq] at hr
  exact tup [] rfl rfl hr.symm
 | cons x rs =>
  obtain ⟨v, vs', rfl, hx, hal'⟩ := hal.cons_left
  cases rs with
  | nil =>
   have := hal'.nil_left
   subst this
   have oth : (x.fz.bind fun y => some (Ret.v y)) = some r → ∃ F', (∀ k, F k → F' k) ∧ (∀ k, F' k → E.F0 k ∨ (E.w0.heap.size ≤ k ∧ k < w.heap.size)) ∧ RRet F' E.w0 w r (Sx.valOf [v]) := fun hr => by
    simp only [Option.bind_eq_some_iff, Option.some.injEq] at hr
    obtain ⟨y, hy, rfl⟩ := hr
    exact one x y v rfl rfl hy rfl
   cases x with
   | o id e sz rows =>
    cases hr
    exact ⟨F, fun k hk => hk, fun k hk => by
     rcases F_W hm hk with h | h
     ·exact .inl h
     ·exact .inr ⟨h, (hm.fz k hk).1⟩, ret_o hm hx⟩
   | p id off cells =>
    cases off with
    | zero =>
     simp only [retOf, Option.bind_eq_some_iff, Option.some.injEq] at hr
     obtain ⟨cs, hcs, rfl⟩ := hr
     have hW : ∀ k, ¬ E.W k := hs.resolve_left (by simp [RV.still])
     refine ⟨regF ρ F, fun k hk => .inl hk, fun k hk => ?_, ret_p hm hx hcs hW⟩
     rcases hk with hk | ⟨id', ad, c, n, s, h, hb⟩
     ·exact outF_new hm (.inl hk)
     ·exact outF_new hm (.inr ⟨id', _, h, hb, hW k⟩)
    | succ off => exact oth hr
   | _ => exact oth hr
  | cons y rs =>
   obtain ⟨u, vs'', rfl, hy, hal''⟩ := hal'.cons_left
   simp only [retOf, Option.bind_eq_some_iff, Option.some.injEq] at hr
   obtain ⟨ys, hys, rfl⟩ := hr
   exact tup ys hys rfl rfl
theorem lookS_init : ∀ {hs : List HV} {k t : Nat} {x : HV}, lookS (initS k hs) t = some x → k ≤ t ∧ hs[t - k]? = some x
 | [], k, t, x, h => by cases h
 | y :: hs, k, t, x, h => by
  simp only [initS] at h
  by_cases e : k = t
  ·subst e; rw [lookS_same] at h; simpa using h
  ·rw [lookS_ne e] at h
   obtain ⟨h1, h2⟩ := lookS_init h
   refine ⟨by omega, ?_⟩
   rw [show t - k = (t - (k + 1)) + 1 by omega]
   simpa using h2
theorem fn_sound {N f : Nat} {orc : Orc} {hs : List HV} {M M' : Mem} {r : Ret} {vals : List Value} (hT : TabOk P T) (hm : P.follows .mixedOrders = true) (hE : E.D = Harm P) (hA : SndA P (callA orc (runF T orc N))) (hB : SndB P (callB orc (runF T orc N)))
  (h : runF T orc (N + 1) f hs M = some (r, M')) : jU P f ∧ ∀ (hal : Al (RH ρ F w) hs vals) (hmem : MemOk E ρ F M w) (hW : M.isEmpty = true → ∀ k, ¬ E.W k),
   Calls P f vals.toArray w (fun e w' => ∃ v F' ρ' F1, e = .returned v ∧ GrowB E.W E.w0 w' ∧ MemOk E ρ' F1 M' w' ∧ (∀ k, F1 k → F' k) ∧ (∀ k, F' k → E.F0 k ∨ (E.w0.heap.size ≤ k ∧ k < w'.heap.size)) ∧ RRet F' E.w0 w' r v) := by
 simp only [runF] at h
 split at h
 ·cases h
 ·rename_i fi hfi
  obtain ⟨hle, h⟩ := yG h
  obtain ⟨hent, fn, hf, hb, hn, hres⟩ := hT.fn f fi hfi
  refine ⟨hent, fun hal hmem hW => calls_of_wp_defers hf hb ?_⟩
  have hle' : hs.length ≤ fi.ntmps := Nat.le_of_ble_eq_true hle
  have hl : vals.length = hs.length := hal.1.symm
  refine runC_sound (E := E) (C := ⟨T, callA orc (runF T orc N), callB orc (runF T orc N), f, fi.ntmps⟩) hT hE hA hB hm fi.body _ _ _ _ _ h ⟨ρ, F, by simp [hn]; omega, fun d hd => by simp at hd, fun t x hx => ?_, hmem⟩ fun e τ a' w' hk hr' => ?_
  ·obtain ⟨_, h2⟩ := lookS_init hx
   simp only [Nat.sub_zero] at h2
   obtain ⟨v, hv, hrv⟩ := hal.get h2
   have hlt := (List.getElem?_eq_some_iff.1 hv).1
   refine ⟨v, ?_, hrv⟩
   rw [List.getElem?_eq_getElem hlt] at hv
   simp [Array.getElem?_append, hlt]
   simpa using hv
  ·obtain ⟨ρ', F', hr'⟩ := hr'
   have key : ∀ rs, mapO (resOf T τ) fi.results = some rs → ∀ r', retOf rs = some r' → (bif M.isEmpty || rs.all RV.still then some (r', τ.M) else none) = some (r, M') → Leaves P fn a'.tmps (fun e w' => ∃ v2 F' ρ' F1, e = .returned v2 ∧ GrowB E.W E.w0 w' ∧ MemOk E ρ' F1 M' w' ∧ (∀ k, F1 k → F' k) ∧ (∀ k, F' k → E.F0 k ∨ (E.w0.heap.size ≤ k ∧ k < w'.heap.size)) ∧ RRet F' E.w0 w' r v2) a'.defers .returning w' := by
    intro rs hrs r' hr2 hb2
    obtain ⟨hor, hb2⟩ := yG hb2
    cases hb2
    obtain ⟨vs, h1, h2⟩ := ress_rel hT hr' hrs
    have hst : rs.all RV.still = true ∨ ∀ k, ¬ E.W k := by
     rcases Bool.or_eq_true _ _ ▸ hor with h | h
     ·exact .inr (hW h)
     ·exact .inl h
    obtain ⟨F2, f1, f2, f3⟩ := ret_all hr'.mem h2 hr2 hst
    exact harm_leaves (valOf_eq hres h1) ⟨Sx.valOf vs, F2, ρ', F', rfl, hr'.mem.grow, hr'.mem, f1, f2, f3⟩ a'.defers fun d hd => by rw [← hE]; exact hr'.defers d hd
   cases e with
   | exit id => simp only [endK] at hk; cases hk
   | normal =>
    simp only [endK, Option.bind_eq_some_iff] at hk
    obtain ⟨rs, hrs, r', hr2, hb2⟩ := hk
    exact key rs hrs r' hr2 hb2
   | ret =>
    simp only [endK, Option.bind_eq_some_iff] at hk
    obtain ⟨rs, hrs, r', hr2, hb2⟩ := hk
    exact key rs hrs r' hr2 hb2
theorem RRet.pv {w0 : World} {r : Ret} {x : PV} {v : Value} (h : RRet F w0 w r v) (hx : retPV r = some x) : ∃ F2 : Nat → Prop, (∀ k, F k → F2 k) ∧ (∀ k, F2 k → F k ∨ (w0.heap.size ≤ k ∧ k < w.heap.size)) ∧ RP F2 w x v := by
 cases r with
 | v y => cases hx; exact ⟨F, fun _ h => h, fun _ h => .inl h, h⟩
 | ow e sz rows =>
  cases hx
  obtain ⟨ad, c, vr, rfl, h0, hal, hrl, hone, hown, hb⟩ := h
  refine ⟨fun k => F k ∨ ad.map (·.block) = some k, fun k hk => .inl hk, fun k hk => ?_, ?_⟩
  ·rcases hk with hk | hk
   ·exact .inl hk
   ·exact .inr (hb k hk).2
  ·exact (qKU (ρ := fun i => if i = 0 then some (.reg ad c rows.length sz) else none) (id := 0) (e := e) (sz := sz) (F := F) ⟨ad, c, vr, by simp, h0, hal, hrl, hone, hown⟩ (fun k hk => .inl hk) (fun L b hL hbl => by simp at hL; subst hL; exact .inr hbl) ad c rows.length sz (by simp)).1
 | pb cells => cases hx
def SndA1 (P : Program) (g : Nat) (ps : List PV) (r : Ret) : Prop := jU P g ∧ ∀ (w : World) (F : Nat → Prop) (vals : List Value), (∀ k, F k → k < w.heap.size) → Al (RP F w) ps vals →
 Calls P g vals.toArray w (fun e w' => ∃ v F', e = .returned v ∧ Grow w w' ∧ (∀ k, F k → F' k) ∧ (∀ k, F' k → F k ∨ (w.heap.size ≤ k ∧ k < w'.heap.size)) ∧ RRet F' w w' r v)
def SndB1 (P : Program) (g : Nat) (hs : List HV) (ps : List PV) (x : PV) (ps' : List PV) : Prop := jU P g ∧ ∀ (w : World) (F : Nat → Prop) (b : Nat) (vals us : List Value) (ty : TypeId), (∀ k, F k → k < w.heap.size) → ¬ F b → b < w.heap.size →
 w.heap[b]? = some (.cells us.toArray ty) → Al (RP F w) ps us → (∀ u ∈ us, u.oneCell' = true) → (∀ h ∈ hs, ∀ id off, h = .p id off → id = pid) → Al (ArgB F w b) hs vals →
 Calls P g vals.toArray w (fun e w' => ∃ v F' us' ty', e = .returned v ∧ GrowB (· = b) w w' ∧ (∀ k, F k → F' k) ∧ (∀ k, F' k → F k ∨ (w.heap.size ≤ k ∧ k < w'.heap.size)) ∧ RP F' w' x v ∧
  w'.heap[b]? = some (.cells us'.toArray ty') ∧ Al (RP F' w') ps' us' ∧ ∀ u ∈ us', u.oneCell' = true)
structure OrcOk (P : Program) (orc : Orc) : Prop where
 a : ∀ g o, orc.a g = some o → ∀ ps r, o ps = some r → SndA1 P g ps r
 b : ∀ g o, orc.b g = some o → ∀ hs ps x ps', o hs ps = some (x, ps') → SndB1 P g hs ps x ps'
theorem fn_soundA {N f : Nat} {orc : Orc} {ps : List PV} {r : Ret} (hT : TabOk P T) (hm : P.follows .mixedOrders = true) (hA : SndA P (callA orc (runF T orc N))) (hB : SndB P (callB orc (runF T orc N)))
  (h : run T orc (N + 1) f ps = some r) : SndA1 P f ps r := by
 simp only [run, Option.bind_eq_some_iff, Option.some.injEq] at h
 obtain ⟨⟨r', M'⟩, h, rfl⟩ := h
 refine ⟨(fn_sound (E := ⟨default, fun _ => False, fun _ => False, Harm P⟩) (ρ := fun _ => none) (F := fun _ => False) (w := default) (vals := []) hT hm rfl hA hB h).1, fun w F vals hF hal => ?_⟩
 refine Calls.mono ((fn_sound (E := ⟨w, F, fun _ => False, Harm P⟩) (ρ := fun _ => none) (F := F) (w := w) (vals := vals) hT hm rfl hA hB h).2 (Al.map_left hal) ⟨(fun id e hl => by cases hl), (fun id L hL => by cases hL), (fun id id' L L' b h => by cases h), (fun id L b h => by cases h), fun k hk => ⟨hF k hk, .inl hk⟩, fun k hk => hk, GrowB.refl _ _, fun b hb => hb.elim⟩ (fun _ k hk => hk)) ?_
 rintro e w' ⟨v, F', ρ', F1, rfl, g, hmem, f1, f2, hr⟩
 exact ⟨v, F', rfl, ⟨g.os, g.tape, g.output, g.size, fun k hk => g.block k hk (fun h => h)⟩, fun k hk => f1 k (hmem.fz0 k hk), f2, hr⟩
theorem fn_soundB {N f : Nat} {orc : Orc} {hs : List HV} {ps ps' : List PV} {x : PV} (hT : TabOk P T) (hm : P.follows .mixedOrders = true) (hA : SndA P (callA orc (runF T orc N))) (hB : SndB P (callB orc (runF T orc N)))
  (h : runB T orc (N + 1) f hs ps = some (x, ps')) : SndB1 P f hs ps x ps' := by
 simp only [runB, Option.bind_eq_some_iff, Option.some.injEq, Prod.mk.injEq] at h
 obtain ⟨⟨r', M'⟩, h, ps2, hps, x2, hx2, rfl, rfl⟩ := h
 refine ⟨(fn_sound (E := ⟨default, fun _ => False, fun _ => False, Harm P⟩) (ρ := fun _ => none) (F := fun _ => False) (w := default) (vals := []) hT hm rfl hA hB h).1, fun w F b vals us ty hF hFb hb hheap hpu hone hpid hal => ?_⟩
 let ρ : Own := fun i => if i = pid then some (.blk b) else none
 have hρ : ρ pid = some (.blk b) := if_pos rfl
 have inv : ∀ id L, ρ id = some L → id = pid ∧ L = .blk b := fun id L hL => by
  by_cases e : id = pid
  ·subst e; rw [hρ] at hL; cases hL; exact ⟨rfl, rfl⟩
  ·simp only [ρ, if_neg e] at hL; cases hL
 refine Calls.mono ((fn_sound (E := ⟨w, F, (· = b), Harm P⟩) (ρ := ρ) (F := F) (w := w) (vals := vals) hT hm rfl hA hB h).2 ⟨hal.1, fun i y v hy hv => ?_⟩ ⟨fun id e hl => ?_, fun id L hL => ?_, fun id id' L L' b h1 h2 _ _ => ?_, fun id L b' hL hb' => ?_, fun k hk => ⟨hF k hk, .inl hk⟩, fun k hk => hk, GrowB.refl _ _, fun b' hb' => ?_⟩ (fun h => by cases h)) ?_
 ·have := hal.2 i y v hy hv
  cases y with
  | v p => exact this
  | p id off =>
   have hid := hpid _ (List.mem_of_getElem? hy) id off rfl
   subst hid
   have hv' : v = .pointer (some ⟨b, off, none⟩) := this
   subst hv'
   exact ⟨b, hρ, rfl⟩
  | _ => exact this.elim
 ·by_cases e1 : pid = id
  ·subst e1
   simp only [lookM, Nat.beq_refl, cond_true, Option.some.injEq] at hl
   subst hl
   exact ⟨b, us, ty, hρ, hheap, Al.map_left (hpu.imp fun _ _ _ h => rh_toH h), hone⟩
  ·simp only [lookM, qWV e1, cond_false] at hl; cases hl
 ·obtain ⟨rfl, rfl⟩ := inv id L hL
  exact ⟨.blk (ps.map PV.toH), by simp only [lookM, Nat.beq_refl, cond_true]⟩
 ·rw [(inv id L h1).1, (inv id' L' h2).1]
 ·obtain ⟨rfl, rfl⟩ := inv id L hL
  cases hb'
  exact ⟨hFb, hb, .inr rfl⟩
 ·have : b' = b := hb'
  subst this; exact hρ
 ·rintro e w' ⟨v, F', ρ', F1, rfl, g, hmem, f1, f2, hr⟩
  obtain ⟨F2, f3, f4, hx⟩ := hr.pv hx2
  unfold pureCells at hps
  split at hps
  ·rename_i hc hl
   obtain ⟨b2, us', ty', hρ2, hheap', hal', hone'⟩ := hmem.ent pid _ hl
   have := hmem.pin b rfl
   rw [hρ2] at this
   cases this
   have h1 := uH hps
   have hbl : ∀ id L k, ρ' id = some L → (∃ a c n sz, L = .reg a c n sz) → L.bl = some k → ¬ F1 k ∧ w.heap.size ≤ k ∧ k < w'.heap.size := fun id L k hL hreg hk => by
    have ho := hmem.off id L k hL hk
    refine ⟨ho.1, ?_, ho.2.1⟩
    rcases ho.2.2 with h | h
    ·exact h
    ·have hp := hmem.apart id pid L _ k hL hρ2 hk (by have hkb : k = b := h; rw [hkb]; rfl)
     subst hp
     rw [hρ2] at hL
     obtain ⟨a, c, n, sz, rfl⟩ := hreg
     cases hL
   let F3 : Nat → Prop := fun k => F2 k ∨ ∃ id L, ρ' id = some L ∧ (∃ a c n sz, L = .reg a c n sz) ∧ L.bl = some k
   refine ⟨v, F3, us', ty', rfl, g, fun k hk => .inl (f3 k (f1 k (hmem.fz0 k hk))), fun k hk => ?_, hx.mono fun k hk => ⟨.inl hk, rfl⟩, hheap', ⟨by rw [← h1.1, hal'.1], fun i p u hp hu => ?_⟩, hone'⟩
   ·rcases hk with hk | ⟨id, L, hL, hreg, hk⟩
    ·rcases f4 k hk with h | h
     ·exact f2 k h
     ·exact .inr h
    ·exact .inr (hbl id L k hL hreg hk).2
   ·have hil := (List.getElem?_eq_some_iff.1 hp).1
    have hl2 : i < hc.length := by rw [h1.1]; exact hil
    have hpv := h1.2 i _ p (List.getElem?_eq_getElem hl2) hp
    have hrh := hal'.2 i _ u (List.getElem?_eq_getElem hl2) hu
    generalize hc[i] = y at hpv hrh
    unfold HV.pz at hpv
    split at hpv
    ·cases hpv; exact RP.mono (fun k hk => ⟨.inl (f3 k (f1 k hk)), rfl⟩) hrh
    ·cases hpv
     have e : u = .slice none 0 0 := hrh
     subst e
     exact .zs
    ·rename_i id
     split at hpv
     ·rename_i e sz rows hl3
      cases hpv
      obtain ⟨a, c, k, sz', hr1, rfl⟩ := hrh
      exact (qKU (hmem.ent id _ hl3) (F' := F3) (fun k hk => .inl (f3 k (f1 k hk))) (fun L b hL hb => .inr ⟨id, L, hL, ⟨_, _, _, _, by rw [hr1] at hL; cases hL; rfl⟩, hb⟩) a c k sz' hr1).1
     ·cases hpv
    ·cases hpv
  ·cases hps
theorem snd_all {orc : Orc} (hT : TabOk P T) (hm : P.follows .mixedOrders = true) (hO : OrcOk P orc) : ∀ N, SndA P (callA orc (runF T orc N)) ∧ SndB P (callB orc (runF T orc N))
 | 0 => by
  refine ⟨fun g ps r h => ?_, fun g hs ps x ps' h => ?_⟩
  ·unfold callA at h
   split at h
   ·rename_i o ho; exact hO.a g o ho ps r h
   ·cases h
  ·unfold callB at h
   split at h
   ·rename_i o ho; exact hO.b g o ho hs ps x ps' h
   ·cases h
 | N + 1 => by
  obtain ⟨hA, hB⟩ := snd_all hT hm hO N
  refine ⟨fun g ps r h => ?_, fun g hs ps x ps' h => ?_⟩
  ·unfold callA at h
   split at h
   ·rename_i o ho; exact hO.a g o ho ps r h
   ·exact fn_soundA hT hm hA hB h
  ·unfold callB at h
   split at h
   ·rename_i o ho; exact hO.b g o ho hs ps x ps' h
   ·exact fn_soundB hT hm hA hB h
theorem run_sound {orc : Orc} {N f : Nat} {ps : List PV} {r : Ret} (hT : TabOk P T) (hm : P.follows .mixedOrders = true) (hO : OrcOk P orc) (h : run T orc N f ps = some r) : SndA1 P f ps r := by
 cases N with
 | zero => cases h
 | succ N => exact fn_soundA hT hm (snd_all hT hm hO N).1 (snd_all hT hm hO N).2 h
end
end Go.Rx
namespace Go.Rx
open Go.RowKit Go.Sx
def asc {α : Type} : List (Nat × α) → Nat → Option α
 | [], _ => none
 | (k, x) :: l, i => bif Nat.beq k i then some x else asc l i
theorem qVZ {α : Type} {l : List (Nat × α)} {i : Nat} {x : α} (h : asc l i = some x) : (i, x) ∈ l := by
 induction l with
 | nil => cases h
 | cons y l ih =>
  obtain ⟨k, z⟩ := y
  simp only [asc] at h
  cases hc : Nat.beq k i with
  | true => rw [hc] at h; cases h; rw [← Nat.eq_of_beq_eq_true hc]; exact List.mem_cons_self
  | false => rw [hc] at h; exact List.mem_cons_of_mem _ (ih h)
def inL : List Nat → Nat → Bool
 | [], _ => false
 | k :: l, i => bif Nat.beq k i then true else inL l i
theorem inL_mem {l : List Nat} {i : Nat} (h : inL l i = true) : i ∈ l := by
 induction l with
 | nil => cases h
 | cons k l ih =>
  simp only [inL] at h
  cases hc : Nat.beq k i with
  | true => rw [← Nat.eq_of_beq_eq_true hc]; exact List.mem_cons_self
  | false => rw [hc] at h; exact List.mem_cons_of_mem _ (ih h)
structure Tabs where
 sz : List (Nat × (Bool × Nat))
 zr : List (Nat × Value)
 fd : List (Nat × List Nat)
 fx : List (Nat × List (Nat × Bool × Nat))
 ar : List (Nat × (Nat × Nat × Bool))
 sl : List (Nat × (Nat × Nat × Nat))
 ly : List (Nat × List (Nat × Nat))
 ik : List (Nat × IntKind)
 str : List Nat
 bo : List Nat
 eq : List (Nat × List Kd)
 fn : List (Nat × Func)
 hint : List (Nat × List (Nat × Hint))
 rw : List Nat
 ow : List (Nat × List Nat)
 dd : List Nat
def constHV : Value → Option HV
 | .slice none 0 0 => some .nl
 | v => (constPV v).bind fun p => some (.v p)
def FnI.of (fn : Func) : FnI := ⟨fn.body.getD .skip, fn.ntmps, fn.results.toList⟩
def Tabs.tab (t : Tabs) : Tab where
 sz := asc t.sz
 zr := fun i => (asc t.zr i).bind fun z => mapO constPV z.cells.toList
 zh := fun i => (asc t.zr i).bind fun z => mapO constHV z.cells.toList
 fd := fun i f => (asc t.fd i).bind fun l => l[f]?
 fx := fun i f => (asc t.fx i).bind fun l => l[f]?
 ar := asc t.ar
 sl := fun i => (asc t.sl i).bind fun x => some (x.1, x.2.1)
 ly := asc t.ly
 ik := asc t.ik
 str := inL t.str
 bo := inL t.bo
 eqK := asc t.eq
 fn := fun i => (asc t.fn i).bind fun f => some (FnI.of f)
 hint := fun f r => match (asc t.hint f).bind fun l => asc l r with | some h => h | none => {}
 rw := inL t.rw
 ownR := fun f d => match asc t.ow f with | some l => inL l d | none => false
 dd := inL t.dd
def allI {α : Type} (p : Nat → α → Bool) : Nat → List α → Bool
 | _, [] => true
 | i, x :: l => p i x && allI p (i + 1) l
theorem allI_get {α : Type} {p : Nat → α → Bool} : ∀ {l : List α} {k : Nat}, allI p k l = true → ∀ {i : Nat} {x : α}, l[i]? = some x → p (k + i) x = true
 | [], _, _, i, x, hx => by simp at hx
 | y :: l, k, h, i, x, hx => by
  simp only [allI, Bool.and_eq_true] at h
  cases i with
  | zero => simp at hx; subst hx; exact h.1
  | succ i =>
   have := allI_get h.2 (i := i) (x := x) (by simpa using hx)
   rw [show k + (i + 1) = k + 1 + i by omega]; exact this
def fxB (P : Program) (t : Nat) (f : Nat) (x : Nat × Bool × Nat) : Bool :=
 match P.underlying t with
 | some (.struct fields) => match fields[f]? with
  | some fld => fld.offset == x.1 && tyB P fld.type x.2.1 x.2.2 && (x.2.1 || Nat.beq x.2.2 1)
  | none => false
 | _ => false
def arX (P : Program) (t : Nat) (x : Nat × Nat × Bool) : Bool :=
 arrB P t x.1 x.2.1 && match P.underlying t with
 | some (.array n e) => n == x.1 && tyB P e x.2.2 x.2.1 && (x.2.2 || Nat.beq x.2.1 1)
 | _ => false
def KV1 : Kd → Value → Prop
 | .i k, v => ∃ x, v = .int k x
 | .b, v => ∃ x, v = .bool x
 | .s, v => ∃ x, v = .string x
def KV : List Kd → List Value → Prop
 | [], vs => vs = []
 | k :: ks, vs => ∃ v us, vs = v :: us ∧ KV1 k v ∧ KV ks us
def AllP {α : Type} (p : α → Prop) : List α → Prop
 | [] => True
 | x :: l => p x ∧ AllP p l
theorem AllP.of {α : Type} {p : α → Prop} : ∀ {l : List α}, AllP p l → ∀ {x}, x ∈ l → p x
 | [], _, x, hx => by simp at hx
 | y :: l, h, x, hx => by
  rcases List.mem_cons.1 hx with rfl | hx
  ·exact h.1
  ·exact h.2.of hx
theorem kv_of : ∀ {ks : List Kd} {ps : List PV} {vs : List Value} {F : Nat → Prop} {w : World}, zZW ks ps = true → Al (RP F w) ps vs → KV ks vs
 | [], [], vs, _, _, _, h => h.nil_left
 | k :: ks, p :: ps, vs, F, w, hk, h => by
  simp only [zZW, Bool.and_eq_true] at hk
  obtain ⟨v, us, rfl, hv, hu⟩ := h.cons_left
  refine ⟨v, us, rfl, ?_, kv_of hk.2 hu⟩
  have := hk.1
  unfold kdIs at this
  split at this
  ·rename_i k1 k2 x
   have e : k1 = k2 := by simpa using this
   subst e
   cases hv; exact ⟨_, rfl⟩
  ·cases hv; exact ⟨_, rfl⟩
  ·cases hv; exact ⟨_, rfl⟩
  ·cases this
 | [], _ :: _, _, _, _, h, _ => by simp [zZW] at h
 | _ :: _, [], _, _, _, h, _ => by simp [zZW] at h
structure Tabs.Ok (P : Program) (t : Tabs) : Prop where
 sz : t.sz.all (fun x => tyB P x.1 x.2.1 x.2.2 && (x.2.1 || Nat.beq x.2.2 1)) = true
 zr : t.zr.map (fun x => (P.info? x.1).bind (·.zero)) = t.zr.map (fun x => some x.2)
 fd : t.fd.all (fun x => allI (fun f o => qWQ P x.1 f o) 0 x.2) = true
 fx : t.fx.all (fun x => allI (fxB P x.1) 0 x.2) = true
 ar : t.ar.all (fun x => arX P x.1 x.2) = true
 sl : t.sl.all (fun x => slcB P x.1 x.2.1 x.2.2.1 && Nat.blt 0 x.2.2.1 && Nat.ble x.2.2.1 1000 && appB P x.1 x.2.1 x.2.2.1 x.2.2.2 && Nat.ble x.2.2.2 100000) = true
 ly : t.ly.map (fun x => (qYZ P x.1).map (·.2)) = t.ly.map (fun x => some x.2)
 ik : t.ik.map (fun x => P.underlying x.1) = t.ik.map (fun x => some (.int x.2))
 str : t.str.map (fun x => P.underlying x) = t.str.map (fun _ => some .string)
 bo : t.bo.map (fun x => P.underlying x) = t.bo.map (fun _ => some .bool)
 eq : AllP (fun x : Nat × List Kd => aggB P x.1 = true ∧ ∀ vs, KV x.2 vs → qXZ P 12 x.1 vs = true) t.eq
 fn : AllP (fun x : Nat × Func => P.funcs[x.1]? = some x.2) t.fn
 fn2 : t.fn.all (fun x => !(x.2.name == "runtime.NumGoroutine") && !x.2.body.isNone) = true
 dd : ∀ f ∈ t.dd, jU P f ∧ ∀ (args : Array Value) (w : World), CallsD P f args .returning w fun e u w' => (∃ v, e = .returned v) ∧ u = .returning ∧ w' = w
theorem zYV {α β : Type} {f g : α → β} {l : List α} (h : l.map f = l.map g) {x : α} (hx : x ∈ l) : f x = g x := by
 induction l with
 | nil => simp at hx
 | cons y l ih =>
  simp only [List.map_cons, List.cons.injEq] at h
  rcases List.mem_cons.1 hx with rfl | hx
  ·exact h.1
  ·exact ih h.2 hx
theorem Tabs.ok {P : Program} {t : Tabs} (h : t.Ok P) : TabOk P t.tab where
 sz := fun i b k hi => by
  have := List.all_eq_true.1 h.sz _ (qVZ hi)
  simp only [Bool.and_eq_true, Bool.or_eq_true] at this
  refine ⟨this.1, fun hb => ?_⟩
  rcases this.2 with h1 | h1
  ·rw [hb] at h1; cases h1
  ·exact Nat.eq_of_beq_eq_true h1
 zr := fun i ps hi => by
  simp only [Tabs.tab, Option.bind_eq_some_iff] at hi
  obtain ⟨z, hz, hps⟩ := hi
  have := zYV h.zr (qVZ hz)
  refine ⟨z, this, ?_⟩
  have h1 := uH hps
  exact ⟨h1.1.symm, fun j p v hp hv => ⟨fun F w => (qUU (F := F) (w := w) (h1.2 j v p hv hp)).1, (qUU (F := fun _ => False) (w := default) (h1.2 j v p hv hp)).2⟩⟩
 zh := fun i hs hi => by
  simp only [Tabs.tab, Option.bind_eq_some_iff] at hi
  obtain ⟨z, hz, hps⟩ := hi
  have := zYV h.zr (qVZ hz)
  refine ⟨z, this, ?_⟩
  have h1 := uH hps
  refine ⟨h1.1.symm, fun j p v hp hv => ?_⟩
  have h2 : constHV v = some p := h1.2 j v p hv hp
  unfold constHV at h2
  split at h2
  ·cases h2; exact ⟨fun _ _ _ => rfl, rfl⟩
  ·simp only [Option.bind_eq_some_iff, Option.some.injEq] at h2
   obtain ⟨q, hq, rfl⟩ := h2
   exact ⟨fun ρ F w => (qUU (F := F) (w := w) hq).1, (qUU (F := fun _ => False) (w := default) hq).2⟩
 fd := fun i f o hi => by
  simp only [Tabs.tab, Option.bind_eq_some_iff] at hi
  obtain ⟨l, hl, ho⟩ := hi
  have := allI_get (List.all_eq_true.1 h.fd _ (qVZ hl)) ho
  simpa using this
 fx := fun i f o b k hi => by
  simp only [Tabs.tab, Option.bind_eq_some_iff] at hi
  obtain ⟨l, hl, ho⟩ := hi
  have := allI_get (List.all_eq_true.1 h.fx _ (qVZ hl)) ho
  rw [Nat.zero_add] at this
  unfold fxB at this
  split at this
  ·rename_i fields hu
   split at this
   ·rename_i fld hf
    simp only [Bool.and_eq_true, Bool.or_eq_true] at this
    refine ⟨fields, fld, hu, hf, by simpa using this.1.1, this.1.2, fun hb => ?_⟩
    rcases this.2 with h1 | h1
    ·rw [hb] at h1; cases h1
    ·exact Nat.eq_of_beq_eq_true h1
   ·cases this
  ·cases this
 ar := fun i n k b hi => by
  have := List.all_eq_true.1 h.ar _ (qVZ hi)
  simp only [arX, Bool.and_eq_true] at this
  refine ⟨this.1, ?_⟩
  have h2 := this.2
  split at h2
  ·rename_i m e hu
   simp only [Bool.and_eq_true, Bool.or_eq_true] at h2
   have hm : m = n := by simpa using h2.1.1
   subst hm
   refine ⟨e, hu, h2.1.2, fun hb => ?_⟩
   rcases h2.2 with h1 | h1
   ·rw [hb] at h1; cases h1
   ·exact Nat.eq_of_beq_eq_true h1
  ·cases h2
 sl := fun i e k hi => by
  simp only [Tabs.tab, Option.bind_eq_some_iff, Option.some.injEq, Prod.mk.injEq] at hi
  obtain ⟨x, hx, rfl, rfl⟩ := hi
  have := List.all_eq_true.1 h.sl _ (qVZ hx)
  simp only [Bool.and_eq_true] at this
  exact ⟨this.1.1.1.1, by simpa [Nat.blt_eq] using this.1.1.1.2, Nat.le_of_ble_eq_true this.1.1.2, x.2.2, this.1.2, Nat.le_of_ble_eq_true this.2⟩
 ly := fun i pl hi => by
  have := zYV h.ly (qVZ hi)
  simp only [Option.map_eq_some_iff] at this
  obtain ⟨⟨z, pl'⟩, hz, rfl⟩ := this
  refine ⟨z, hz, fun ps hps => ?_⟩
  simp only [Tabs.tab, Option.bind_eq_some_iff] at hps
  obtain ⟨z', hz', hps⟩ := hps
  have h0 : (P.info? i).bind (·.zero) = some z' := zYV h.zr (qVZ hz')
  have e : z = z'.cells.toList := by
   unfold qYZ at hz
   split at hz
   ·rename_i it n e hi _
    rw [hi] at h0
    simp only [Option.bind_some] at h0
    rw [h0] at hz
    split at hz
    ·rename_i h1 _; cases h1; cases hz; rfl
    ·cases hz
   ·rename_i it fields hi _
    rw [hi] at h0
    simp only [Option.bind_some] at h0
    rw [h0] at hz
    split at hz
    ·rename_i h1 _; cases h1; cases hz; rfl
    ·cases hz
   ·cases hz
  subst e
  have h1 := uH hps
  exact ⟨h1.1.symm, fun j p v hp hv => ⟨fun F w => (qUU (F := F) (w := w) (h1.2 j v p hv hp)).1, (qUU (F := fun _ => False) (w := default) (h1.2 j v p hv hp)).2⟩⟩
 ik := fun i k hi => zYV h.ik (qVZ hi)
 str := fun i hi => zYV h.str (inL_mem hi)
 bo := fun i hi => zYV h.bo (inL_mem hi)
 eqK := fun i ks hi => by
  have := h.eq.of (qVZ hi)
  exact ⟨this.1, fun vs ⟨ps, F, w, hk, hal⟩ => this.2 vs (kv_of hk hal)⟩
 dd := fun f hf => h.dd f (inL_mem hf)
 fn := fun f fi hi => by
  simp only [Tabs.tab, Option.bind_eq_some_iff, Option.some.injEq] at hi
  obtain ⟨fn, hfn, rfl⟩ := hi
  have h1 := h.fn.of (qVZ hfn)
  have h2 := List.all_eq_true.1 h.fn2 _ (qVZ hfn)
  simp only [Bool.and_eq_true, Bool.not_eq_true'] at h2
  simp only at h1 h2
  refine ⟨zG h1 h2.1 h2.2, fn, h1, ?_, rfl, by simp [FnI.of]⟩
  cases hb : fn.body with
  | none => rw [hb] at h2; simp at h2
  | some b => simp [FnI.of, hb]
end Go.Rx
namespace Go.Proofs.YtmbnpjpggccefaaGreat.Rt
open Go.Rx Go.Sx
noncomputable def tabs : Tabs where
 sz := [(1, false, 1),
  (2, false, 1),
  (3, false, 1),
  (4, false, 1),
  (5, false, 1),
  (6, false, 1),
  (7, true, 4),
  (8, true, 4),
  (9, false, 1),
  (10, false, 1),
  (11, false, 1),
  (12, false, 1),
  (13, true, 2),
  (14, true, 2),
  (15, false, 1),
  (16, false, 1),
  (17, false, 1),
  (18, true, 1),
  (19, true, 1),
  (20, false, 1),
  (21, false, 1),
  (22, false, 1),
  (23, false, 1),
  (24, true, 2),
  (25, true, 2),
  (26, false, 1),
  (27, false, 1),
  (28, true, 4),
  (29, true, 4),
  (30, false, 1),
  (31, false, 1),
  (32, false, 1),
  (33, false, 1),
  (34, false, 1),
  (35, false, 1),
  (36, false, 1),
  (37, false, 1),
  (38, true, 3),
  (39, true, 3),
  (40, true, 10),
  (41, true, 10),
  (42, false, 1),
  (43, false, 1),
  (44, false, 1),
  (45, false, 1),
  (46, false, 1),
  (47, false, 1),
  (48, false, 1),
  (49, false, 1),
  (50, false, 1),
  (51, true, 2),
  (52, true, 2),
  (54, false, 1),
  (56, false, 1),
  (57, false, 1),
  (58, false, 1),
  (59, false, 1),
  (60, false, 1),
  (61, false, 1),
  (62, false, 1),
  (63, false, 1),
  (64, true, 3),
  (65, true, 3),
  (66, false, 1),
  (67, true, 2),
  (68, true, 2),
  (69, true, 12),
  (70, true, 12),
  (71, true, 2),
  (72, true, 6),
  (73, true, 18),
  (74, true, 18),
  (75, true, 6),
  (76, true, 24),
  (77, true, 24),
  (78, false, 1),
  (79, false, 1),
  (80, false, 1),
  (81, false, 1),
  (82, false, 1),
  (83, false, 1),
  (84, false, 1),
  (85, false, 1),
  (86, false, 1),
  (87, false, 1),
  (88, false, 1),
  (89, false, 1),
  (90, true, 3),
  (91, true, 3),
  (92, false, 1),
  (93, true, 3),
  (94, true, 3),
  (95, true, 8),
  (96, true, 8),
  (97, false, 1),
  (98, false, 1),
  (99, false, 1),
  (100, false, 1),
  (101, false, 1),
  (102, false, 1),
  (103, false, 1),
  (104, false, 1),
  (105, false, 1),
  (106, false, 1),
  (107, false, 1),
  (108, false, 1),
  (109, true, 2),
  (110, true, 2),
  (111, false, 1),
  (112, true, 5),
  (113, true, 5),
  (114, false, 1),
  (115, false, 1),
  (116, false, 1),
  (117, true, 1),
  (118, true, 1),
  (119, false, 1),
  (120, false, 1),
  (121, false, 1),
  (122, false, 1),
  (123, false, 1),
  (124, false, 1),
  (125, false, 1),
  (126, false, 1),
  (127, false, 1),
  (128, false, 1),
  (129, false, 1),
  (130, true, 14),
  (131, true, 14),
  (132, false, 1),
  (133, false, 1),
  (134, false, 1),
  (135, false, 1),
  (136, false, 1),
  (137, false, 1),
  (138, false, 1),
  (140, false, 1),
  (141, false, 1),
  (142, false, 1),
  (143, false, 1),
  (144, false, 1),
  (145, false, 1),
  (146, false, 1),
  (147, false, 1),
  (148, true, 6),
  (149, true, 6),
  (150, false, 1),
  (151, true, 8),
  (152, false, 1),
  (153, false, 1),
  (154, false, 1),
  (155, false, 1),
  (156, false, 1),
  (157, false, 1),
  (158, false, 1),
  (159, false, 1),
  (160, false, 1),
  (161, false, 1),
  (162, false, 1),
  (163, false, 1),
  (164, false, 1),
  (165, false, 1),
  (166, false, 1),
  (167, false, 1),
  (168, false, 1),
  (169, false, 1),
  (171, false, 1),
  (172, false, 1),
  (173, false, 1),
  (174, false, 1),
  (175, false, 1),
  (176, false, 1),
  (177, false, 1),
  (178, false, 1),
  (179, false, 1),
  (180, false, 1),
  (181, false, 1),
  (182, false, 1),
  (183, false, 1),
  (184, false, 1),
  (185, false, 1),
  (186, false, 1),
  (187, false, 1),
  (188, false, 1),
  (189, true, 4),
  (190, false, 1),
  (191, false, 1),
  (192, false, 1),
  (193, false, 1),
  (194, false, 1),
  (195, false, 1),
  (196, false, 1),
  (197, false, 1),
  (198, false, 1),
  (199, true, 11),
  (202, true, 11)]
 zr := [(1, .nilFunc),
  (2, .int .i64 0),
  (3, .int .i64 0),
  (4, .bool false),
  (5, .int .u8 0),
  (6, .int .u8 0),
  (7, .agg #[.int .i64 0, .int .i64 0, .bool false, .int .u8 0]),
  (8, .agg #[.int .i64 0, .int .i64 0, .bool false, .int .u8 0]),
  (9, .string ByteArray.empty),
  (10, .string ByteArray.empty),
  (11, .string ByteArray.empty),
  (12, .int .u64 0),
  (13, .agg #[.string ByteArray.empty, .int .u64 0]),
  (14, .agg #[.string ByteArray.empty, .int .u64 0]),
  (15, .pointer none),
  (16, .pointer none),
  (17, .pointer none),
  (18, .agg #[.pointer none]),
  (19, .agg #[.pointer none]),
  (20, .nilIface),
  (21, .int .i32 0),
  (22, .slice none 0 0),
  (23, .slice none 0 0),
  (24, .agg #[.slice none 0 0, .slice none 0 0]),
  (25, .agg #[.slice none 0 0, .slice none 0 0]),
  (26, .slice none 0 0),
  (27, .slice none 0 0),
  (28, .agg #[.slice none 0 0, .slice none 0 0, .slice none 0 0, .slice none 0 0]),
  (29, .agg #[.slice none 0 0, .slice none 0 0, .slice none 0 0, .slice none 0 0]),
  (30, .slice none 0 0),
  (31, .slice none 0 0),
  (32, .nilFunc),
  (33, .nilFunc),
  (34, .nilFunc),
  (35, .nilFunc),
  (36, .nilFunc),
  (37, .slice none 0 0),
  (38, .agg #[.int .i64 0, .int .i64 0, .int .i64 0]),
  (39, .agg #[.int .i64 0, .int .i64 0, .int .i64 0]),
  (40, .agg #[.int .i64 0, .int .i64 0, .int .i64 0, .int .i64 0, .int .i64 0, .int .i64 0, .int .i64 0, .int .i64 0, .int .i64 0, .int .i64 0]),
  (41, .agg #[.int .i64 0, .int .i64 0, .int .i64 0, .int .i64 0, .int .i64 0, .int .i64 0, .int .i64 0, .int .i64 0, .int .i64 0, .int .i64 0]),
  (42, .nilFunc),
  (43, .nilFunc),
  (44, .nilFunc),
  (45, .nilFunc),
  (46, .nilFunc),
  (47, .nilFunc),
  (48, .nilFunc),
  (49, .nilFunc),
  (50, .nilFunc),
  (51, .agg #[.int .i64 0, .int .i64 0]),
  (52, .agg #[.int .i64 0, .int .i64 0]),
  (54, .nilFunc),
  (56, .nilFunc),
  (57, .nilFunc),
  (58, .pointer none),
  (59, .nilFunc),
  (60, .nilFunc),
  (61, .nilFunc),
  (62, .slice none 0 0),
  (63, .nilFunc),
  (64, .agg #[.int .i64 0, .int .i64 0, .slice none 0 0]),
  (65, .agg #[.int .i64 0, .int .i64 0, .slice none 0 0]),
  (66, .nilFunc),
  (67, .agg #[.int .i64 0, .int .i64 0]),
  (68, .agg #[.int .i64 0, .int .i64 0]),
  (69, .agg #[.string ByteArray.empty, .int .i64 0, .int .i64 0, .int .i64 0, .int .i64 0, .int .i64 0, .int .i64 0, .int .i64 0, .int .i64 0, .int .i64 0, .int .i64 0, .int .i64 0]),
  (70, .agg #[.string ByteArray.empty, .int .i64 0, .int .i64 0, .int .i64 0, .int .i64 0, .int .i64 0, .int .i64 0, .int .i64 0, .int .i64 0, .int .i64 0, .int .i64 0, .int .i64 0]),
  (71, .agg #[.int .i64 0, .int .i64 0]),
  (72, .agg #[.int .i64 0, .int .i64 0, .int .i64 0, .int .i64 0, .int .i64 0, .int .i64 0]),
  (73, .agg #[.int .i64 0, .int .i64 0, .int .i64 0, .int .i64 0, .int .i64 0, .int .i64 0, .int .i64 0, .int .i64 0, .int .i64 0, .int .i64 0, .int .i64 0, .int .i64 0, .int .i64 0, .int .i64 0, .int .i64 0, .int .i64 0, .int .i64 0, .int .i64 0]),
  (74, .agg #[.int .i64 0, .int .i64 0, .int .i64 0, .int .i64 0, .int .i64 0, .int .i64 0, .int .i64 0, .int .i64 0, .int .i64 0, .int .i64 0, .int .i64 0, .int .i64 0, .int .i64 0, .int .i64 0, .int .i64 0, .int .i64 0, .int .i64 0, .int .i64 0]),
  (75, .agg #[.int .i64 0, .int .i64 0, .int .i64 0, .int .i64 0, .int .i64 0, .int .i64 0]),
  (76, .agg #[.int .i64 0, .int .i64 0, .int .i64 0, .int .i64 0, .int .i64 0, .int .i64 0, .int .i64 0, .int .i64 0, .int .i64 0, .int .i64 0, .int .i64 0, .int .i64 0, .int .i64 0, .int .i64 0, .int .i64 0, .int .i64 0, .int .i64 0, .int .i64 0, .int .i64 0, .int .i64 0, .int .i64 0, .int .i64 0, .int .i64 0, .int .i64 0]),
  (77, .agg #[.int .i64 0, .int .i64 0, .int .i64 0, .int .i64 0, .int .i64 0, .int .i64 0, .int .i64 0, .int .i64 0, .int .i64 0, .int .i64 0, .int .i64 0, .int .i64 0, .int .i64 0, .int .i64 0, .int .i64 0, .int .i64 0, .int .i64 0, .int .i64 0, .int .i64 0, .int .i64 0, .int .i64 0, .int .i64 0, .int .i64 0, .int .i64 0]),
  (78, .nilFunc),
  (79, .nilFunc),
  (80, .nilFunc),
  (81, .nilFunc),
  (82, .nilFunc),
  (83, .slice none 0 0),
  (84, .nilFunc),
  (85, .nilFunc),
  (86, .slice none 0 0),
  (87, .nilFunc),
  (88, .nilFunc),
  (89, .slice none 0 0),
  (90, .agg #[.int .i64 0, .int .i64 0, .slice none 0 0]),
  (91, .agg #[.int .i64 0, .int .i64 0, .slice none 0 0]),
  (92, .slice none 0 0),
  (93, .agg #[.int .i64 0, .slice none 0 0, .slice none 0 0]),
  (94, .agg #[.int .i64 0, .slice none 0 0, .slice none 0 0]),
  (95, .agg #[.int .i64 0, .slice none 0 0, .int .i64 0, .int .i64 0, .slice none 0 0, .int .i64 0, .slice none 0 0, .slice none 0 0]),
  (96, .agg #[.int .i64 0, .slice none 0 0, .int .i64 0, .int .i64 0, .slice none 0 0, .int .i64 0, .slice none 0 0, .slice none 0 0]),
  (97, .nilFunc),
  (98, .nilFunc),
  (99, .int .i64 0),
  (100, .nilFunc),
  (101, .nilFunc),
  (102, .nilFunc),
  (103, .nilFunc),
  (104, .nilFunc),
  (105, .slice none 0 0),
  (106, .nilFunc),
  (107, .nilFunc),
  (108, .nilFunc),
  (109, .agg #[.slice none 0 0, .int .i64 0]),
  (110, .agg #[.slice none 0 0, .int .i64 0]),
  (111, .nilFunc),
  (112, .agg #[.int .i64 0, .int .i64 0, .int .i64 0, .int .i64 0, .int .i64 0]),
  (113, .agg #[.int .i64 0, .int .i64 0, .int .i64 0, .int .i64 0, .int .i64 0]),
  (114, .nilFunc),
  (115, .nilFunc),
  (116, .nilFunc),
  (117, .agg #[.nilFunc]),
  (118, .agg #[.nilFunc]),
  (119, .nilFunc),
  (120, .nilFunc),
  (121, .nilFunc),
  (122, .nilFunc),
  (123, .nilFunc),
  (124, .slice none 0 0),
  (125, .nilFunc),
  (126, .nilFunc),
  (127, .nilFunc),
  (128, .nilFunc),
  (129, .nilFunc),
  (130, .agg #[.slice none 0 0, .slice none 0 0, .slice none 0 0, .slice none 0 0, .slice none 0 0, .int .i64 0, .int .i64 0, .slice none 0 0, .int .i64 0, .int .i64 0, .slice none 0 0, .int .i64 0, .slice none 0 0, .slice none 0 0]),
  (131, .agg #[.slice none 0 0, .slice none 0 0, .slice none 0 0, .slice none 0 0, .slice none 0 0, .int .i64 0, .int .i64 0, .slice none 0 0, .int .i64 0, .int .i64 0, .slice none 0 0, .int .i64 0, .slice none 0 0, .slice none 0 0]),
  (132, .nilFunc),
  (133, .nilFunc),
  (134, .nilFunc),
  (135, .nilFunc),
  (136, .nilFunc),
  (137, .nilFunc),
  (138, .nilFunc),
  (140, .nilFunc),
  (141, .int .u64 0),
  (142, .nilFunc),
  (143, .nilFunc),
  (144, .nilFunc),
  (145, .nilFunc),
  (146, .nilFunc),
  (147, .nilFunc),
  (148, .agg #[.int .i64 0, .int .i64 0, .int .i64 0, .int .i64 0, .int .i64 0, .int .i64 0]),
  (149, .agg #[.int .i64 0, .int .i64 0, .int .i64 0, .int .i64 0, .int .i64 0, .int .i64 0]),
  (150, .nilFunc),
  (151, .agg #[.int .i64 0, .int .i64 0, .int .i64 0, .int .i64 0, .int .i64 0, .int .i64 0, .int .i64 0, .int .i64 0]),
  (152, .nilFunc),
  (153, .nilFunc),
  (154, .nilFunc),
  (155, .nilFunc),
  (156, .int .i64 0),
  (157, .nilFunc),
  (158, .nilFunc),
  (159, .nilFunc),
  (160, .nilFunc),
  (161, .nilFunc),
  (162, .nilFunc),
  (163, .nilFunc),
  (164, .nilFunc),
  (165, .nilFunc),
  (166, .nilFunc),
  (167, .nilFunc),
  (168, .nilFunc),
  (169, .pointer none),
  (171, .nilFunc),
  (172, .nilFunc),
  (173, .nilFunc),
  (174, .nilFunc),
  (175, .nilFunc),
  (176, .nilFunc),
  (177, .nilFunc),
  (178, .nilFunc),
  (179, .nilFunc),
  (180, .nilFunc),
  (181, .nilFunc),
  (182, .nilFunc),
  (183, .nilFunc),
  (184, .nilFunc),
  (185, .nilFunc),
  (186, .nilFunc),
  (187, .nilFunc),
  (188, .nilFunc),
  (189, .agg #[.int .i64 0, .int .i64 0, .int .i64 0, .int .i64 0]),
  (190, .nilFunc),
  (191, .nilFunc),
  (192, .nilFunc),
  (193, .nilFunc),
  (194, .nilFunc),
  (195, .nilFunc),
  (196, .nilFunc),
  (197, .nilFunc),
  (198, .nilFunc),
  (199, .agg #[.int .i64 0, .int .i64 0, .int .i64 0, .int .i64 0, .int .i64 0, .int .i64 0, .int .i64 0, .int .i64 0, .int .i64 0, .int .i64 0, .int .i64 0]),
  (202, .agg #[.int .i64 0, .int .i64 0, .int .i64 0, .int .i64 0, .int .i64 0, .int .i64 0, .int .i64 0, .int .i64 0, .int .i64 0, .int .i64 0, .int .i64 0])]
 fd := [(7, [0, 1, 2, 3]),
  (8, [0, 1, 2, 3]),
  (13, [0, 1]),
  (14, [0, 1]),
  (18, [0]),
  (19, [0]),
  (24, [0, 1]),
  (25, [0, 1]),
  (28, [0, 2, 3]),
  (29, [0, 2, 3]),
  (40, [0, 1, 2, 5, 8, 9]),
  (41, [0, 1, 2, 5, 8, 9]),
  (51, [0, 1]),
  (52, [0, 1]),
  (64, [0, 1, 2]),
  (65, [0, 1, 2]),
  (67, [0, 1]),
  (68, [0, 1]),
  (69, [0, 1, 2, 3, 6, 7, 8, 9, 10, 11]),
  (70, [0, 1, 2, 3, 6, 7, 8, 9, 10, 11]),
  (71, [0, 1]),
  (76, [0, 18]),
  (77, [0, 18]),
  (90, [0, 1, 2]),
  (91, [0, 1, 2]),
  (93, [0, 1, 2]),
  (94, [0, 1, 2]),
  (95, [0, 1, 2, 5]),
  (96, [0, 1, 2, 5]),
  (109, [0, 1]),
  (110, [0, 1]),
  (112, [0, 1, 2]),
  (113, [0, 1, 2]),
  (117, [0]),
  (118, [0]),
  (130, [0, 2, 3, 4, 5, 6]),
  (131, [0, 2, 3, 4, 5, 6]),
  (148, [0]),
  (149, [0])]
 fx := [(7, [(0, false, 1), (1, false, 1), (2, false, 1), (3, false, 1)]),
  (8, [(0, false, 1), (1, false, 1), (2, false, 1), (3, false, 1)]),
  (13, [(0, false, 1), (1, false, 1)]),
  (14, [(0, false, 1), (1, false, 1)]),
  (18, [(0, false, 1)]),
  (19, [(0, false, 1)]),
  (24, [(0, false, 1), (1, false, 1)]),
  (25, [(0, false, 1), (1, false, 1)]),
  (28, [(0, true, 2), (2, false, 1), (3, false, 1)]),
  (29, [(0, true, 2), (2, false, 1), (3, false, 1)]),
  (40, [(0, false, 1), (1, false, 1), (2, true, 3), (5, true, 3), (8, false, 1), (9, false, 1)]),
  (41, [(0, false, 1), (1, false, 1), (2, true, 3), (5, true, 3), (8, false, 1), (9, false, 1)]),
  (51, [(0, false, 1), (1, false, 1)]),
  (52, [(0, false, 1), (1, false, 1)]),
  (64, [(0, false, 1), (1, false, 1), (2, false, 1)]),
  (65, [(0, false, 1), (1, false, 1), (2, false, 1)]),
  (67, [(0, false, 1), (1, false, 1)]),
  (68, [(0, false, 1), (1, false, 1)]),
  (69, [(0, false, 1), (1, false, 1), (2, false, 1), (3, true, 3), (6, false, 1), (7, false, 1), (8, false, 1), (9, false, 1), (10, false, 1), (11, false, 1)]),
  (70, [(0, false, 1), (1, false, 1), (2, false, 1), (3, true, 3), (6, false, 1), (7, false, 1), (8, false, 1), (9, false, 1), (10, false, 1), (11, false, 1)]),
  (71, [(0, false, 1), (1, false, 1)]),
  (76, [(0, true, 18), (18, true, 6)]),
  (77, [(0, true, 18), (18, true, 6)]),
  (90, [(0, false, 1), (1, false, 1), (2, false, 1)]),
  (91, [(0, false, 1), (1, false, 1), (2, false, 1)]),
  (93, [(0, false, 1), (1, false, 1), (2, false, 1)]),
  (94, [(0, false, 1), (1, false, 1), (2, false, 1)]),
  (95, [(0, false, 1), (1, false, 1), (2, true, 3), (5, true, 3)]),
  (96, [(0, false, 1), (1, false, 1), (2, true, 3), (5, true, 3)]),
  (109, [(0, false, 1), (1, false, 1)]),
  (110, [(0, false, 1), (1, false, 1)]),
  (112, [(0, false, 1), (1, false, 1), (2, true, 3)]),
  (113, [(0, false, 1), (1, false, 1), (2, true, 3)]),
  (117, [(0, false, 1)]),
  (118, [(0, false, 1)]),
  (130, [(0, true, 2), (2, false, 1), (3, false, 1), (4, false, 1), (5, false, 1), (6, true, 8)]),
  (131, [(0, true, 2), (2, false, 1), (3, false, 1), (4, false, 1), (5, false, 1), (6, true, 8)]),
  (148, [(0, true, 6)]),
  (149, [(0, true, 6)])]
 ar := [(38, 3, 1, false),
  (39, 3, 1, false),
  (72, 3, 2, true),
  (73, 3, 6, true),
  (74, 3, 6, true),
  (75, 3, 2, true),
  (151, 8, 1, false),
  (189, 4, 1, false),
  (199, 11, 1, false),
  (202, 11, 1, false)]
 sl := [(22, 70, 12, 104),
  (23, 113, 5, 40),
  (26, 65, 3, 40),
  (27, 68, 2, 16),
  (30, 71, 2, 16),
  (31, 3, 1, 8),
  (37, 41, 10, 80),
  (62, 39, 3, 24),
  (83, 77, 24, 192),
  (86, 124, 1, 24),
  (89, 91, 3, 40),
  (92, 2, 1, 8),
  (105, 52, 2, 16),
  (124, 75, 6, 48)]
 ly := [(7, [(0, 1), (1, 1), (2, 1), (3, 1)]),
  (8, [(0, 1), (1, 1), (2, 1), (3, 1)]),
  (13, [(0, 1), (1, 1)]),
  (14, [(0, 1), (1, 1)]),
  (18, [(0, 1)]),
  (19, [(0, 1)]),
  (24, [(0, 1), (1, 1)]),
  (25, [(0, 1), (1, 1)]),
  (28, [(0, 2), (2, 1), (3, 1)]),
  (29, [(0, 2), (2, 1), (3, 1)]),
  (38, [(0, 1), (1, 1), (2, 1)]),
  (39, [(0, 1), (1, 1), (2, 1)]),
  (40, [(0, 1), (1, 1), (2, 3), (5, 3), (8, 1), (9, 1)]),
  (41, [(0, 1), (1, 1), (2, 3), (5, 3), (8, 1), (9, 1)]),
  (51, [(0, 1), (1, 1)]),
  (52, [(0, 1), (1, 1)]),
  (64, [(0, 1), (1, 1), (2, 1)]),
  (65, [(0, 1), (1, 1), (2, 1)]),
  (67, [(0, 1), (1, 1)]),
  (68, [(0, 1), (1, 1)]),
  (69, [(0, 1), (1, 1), (2, 1), (3, 3), (6, 1), (7, 1), (8, 1), (9, 1), (10, 1), (11, 1)]),
  (70, [(0, 1), (1, 1), (2, 1), (3, 3), (6, 1), (7, 1), (8, 1), (9, 1), (10, 1), (11, 1)]),
  (71, [(0, 1), (1, 1)]),
  (72, [(0, 2), (2, 2), (4, 2)]),
  (73, [(0, 6), (6, 6), (12, 6)]),
  (74, [(0, 6), (6, 6), (12, 6)]),
  (75, [(0, 2), (2, 2), (4, 2)]),
  (76, [(0, 18), (18, 6)]),
  (77, [(0, 18), (18, 6)]),
  (90, [(0, 1), (1, 1), (2, 1)]),
  (91, [(0, 1), (1, 1), (2, 1)]),
  (93, [(0, 1), (1, 1), (2, 1)]),
  (94, [(0, 1), (1, 1), (2, 1)]),
  (95, [(0, 1), (1, 1), (2, 3), (5, 3)]),
  (96, [(0, 1), (1, 1), (2, 3), (5, 3)]),
  (109, [(0, 1), (1, 1)]),
  (110, [(0, 1), (1, 1)]),
  (112, [(0, 1), (1, 1), (2, 3)]),
  (113, [(0, 1), (1, 1), (2, 3)]),
  (117, [(0, 1)]),
  (118, [(0, 1)]),
  (130, [(0, 2), (2, 1), (3, 1), (4, 1), (5, 1), (6, 8)]),
  (131, [(0, 2), (2, 1), (3, 1), (4, 1), (5, 1), (6, 8)]),
  (148, [(0, 6)]),
  (149, [(0, 6)]),
  (151, [(0, 1), (1, 1), (2, 1), (3, 1), (4, 1), (5, 1), (6, 1), (7, 1)]),
  (189, [(0, 1), (1, 1), (2, 1), (3, 1)]),
  (199, [(0, 1), (1, 1), (2, 1), (3, 1), (4, 1), (5, 1), (6, 1), (7, 1), (8, 1), (9, 1), (10, 1)]),
  (202, [(0, 1), (1, 1), (2, 1), (3, 1), (4, 1), (5, 1), (6, 1), (7, 1), (8, 1), (9, 1), (10, 1)])]
 ik := [(2, .i64),
  (3, .i64),
  (5, .u8),
  (6, .u8),
  (12, .u64),
  (21, .i32),
  (99, .i64),
  (141, .u64),
  (156, .i64)]
 str := [9,
  10,
  11]
 bo := [4]
 eq := [(39, [.i .i64, .i .i64, .i .i64]),
  (52, [.i .i64, .i .i64]),
  (75, [.i .i64, .i .i64, .i .i64, .i .i64, .i .i64, .i .i64]),
  (77, [.i .i64, .i .i64, .i .i64, .i .i64, .i .i64, .i .i64, .i .i64, .i .i64, .i .i64, .i .i64, .i .i64, .i .i64, .i .i64, .i .i64, .i .i64, .i .i64, .i .i64, .i .i64, .i .i64, .i .i64, .i .i64, .i .i64, .i .i64, .i .i64])]
 fn := [(3, Tryz.f3),
  (4, Tryz.f4),
  (5, Tryz.f5),
  (6, Tryz.f6),
  (7, Tryz.f7),
  (8, Tryz.f8),
  (9, Tryz.f9),
  (10, Tryz.f10),
  (11, Tryz.f11),
  (12, Tryz.f12),
  (13, Tryz.f13),
  (14, Tryz.f14),
  (15, Tryz.f15),
  (16, Tryz.f16),
  (17, Tryz.f17),
  (18, Tryz.f18),
  (19, Tryz.f19),
  (20, Tryz.f20),
  (21, Tryz.f21),
  (22, Tryz.f22),
  (23, Tryz.f23),
  (24, Tryz.f24),
  (25, Tryz.f25),
  (26, Tryz.f26),
  (27, Tryz.f27),
  (28, Tryz.f28),
  (29, Tryz.f29),
  (30, Tryz.f30),
  (31, Tryz.f31),
  (32, Tryz.f32),
  (33, Tryz.f33),
  (34, Tryz.f34),
  (35, Tryz.f35),
  (36, Tryz.f36),
  (37, Tryz.f37),
  (38, Tryz.f38),
  (39, Tryz.f39),
  (40, Tryz.f40),
  (41, Tryz.f41),
  (42, Tryz.f42),
  (43, Tryz.f43),
  (44, Tryz.f44),
  (45, Tryz.f45),
  (46, Tryz.f46),
  (47, Tryz.f47),
  (48, Tryz.f48),
  (49, Tryz.f49),
  (50, Tryz.f50),
  (51, Tryz.f51),
  (52, Tryz.f52),
  (53, Tryz.f53),
  (54, Tryz.f54),
  (55, Tryz.f55),
  (56, Tryz.f56),
  (57, Tryz.f57),
  (58, Tryz.f58),
  (59, Tryz.f59),
  (60, Tryz.f60),
  (61, Tryz.f61),
  (62, Tryz.f62),
  (63, Tryz.f63),
  (64, Tryz.f64),
  (65, Tryz.f65),
  (66, Tryz.f66),
  (67, Tryz.f67),
  (68, Tryz.f68),
  (69, Tryz.f69),
  (70, Tryz.f70),
  (71, Tryz.f71),
  (72, Tryz.f72),
  (73, Tryz.f73),
  (74, Tryz.f74),
  (75, Tryz.f75),
  (76, Tryz.f76),
  (77, Tryz.f77),
  (78, Tryz.f78),
  (79, Tryz.f79),
  (80, Tryz.f80),
  (81, Tryz.f81),
  (82, Tryz.f82),
  (83, Tryz.f83),
  (84, Tryz.f84),
  (85, Tryz.f85),
  (86, Tryz.f86),
  (87, Tryz.f87),
  (88, Tryz.f88),
  (89, Tryz.f89),
  (90, Tryz.f90),
  (91, Tryz.f91),
  (92, Tryz.f92),
  (93, Tryz.f93),
  (94, Tryz.f94),
  (95, Tryz.f95),
  (96, Tryz.f96),
  (97, Tryz.f97),
  (98, Tryz.f98),
  (99, Tryz.f99),
  (100, Tryz.f100),
  (101, Tryz.f101),
  (102, Tryz.f102),
  (103, Tryz.f103),
  (104, Tryz.f104),
  (105, Tryz.f105),
  (106, Tryz.f106),
  (107, Tryz.f107),
  (108, Tryz.f108),
  (109, Tryz.f109),
  (110, Tryz.f110),
  (111, Tryz.f111),
  (112, Tryz.f112),
  (113, Tryz.f113),
  (114, Tryz.f114),
  (115, Tryz.f115),
  (116, Tryz.f116),
  (117, Tryz.f117),
  (118, Tryz.f118),
  (119, Tryz.f119),
  (120, Tryz.f120),
  (121, Tryz.f121),
  (122, Tryz.f122),
  (123, Tryz.f123),
  (124, Tryz.f124),
  (125, Tryz.f125),
  (126, Tryz.f126),
  (127, Tryz.f127),
  (128, Tryz.f128),
  (129, Tryz.f129),
  (130, Tryz.f130),
  (131, Tryz.f131),
  (132, Tryz.f132),
  (133, Tryz.f133),
  (134, Tryz.f134),
  (135, Tryz.f135),
  (136, Tryz.f136),
  (137, Tryz.f137),
  (138, Tryz.f138),
  (139, Tryz.f139),
  (140, Tryz.f140),
  (141, Tryz.f141),
  (142, Tryz.f142),
  (143, Tryz.f143),
  (144, Tryz.f144),
  (145, Tryz.f145),
  (146, Tryz.f146),
  (147, Tryz.f147),
  (148, Tryz.f148),
  (149, Tryz.f149),
  (150, Tryz.f150),
  (151, Tryz.f151),
  (152, Tryz.f152),
  (153, Tryz.f153),
  (154, Tryz.f154),
  (155, Tryz.f155),
  (156, Tryz.f156),
  (157, Tryz.f157),
  (158, Tryz.f158),
  (159, Tryz.f159),
  (160, Tryz.f160),
  (161, Tryz.f161),
  (162, Tryz.f162),
  (163, Tryz.f163),
  (164, Tryz.f164),
  (165, Tryz.f165),
  (166, Tryz.f166),
  (167, Tryz.f167),
  (168, Tryz.f168),
  (169, Tryz.f169),
  (170, Tryz.f170),
  (171, Tryz.f171),
  (172, Tryz.f172),
  (173, Tryz.f173),
  (174, Tryz.f174),
  (175, Tryz.f175),
  (176, Tryz.f176),
  (177, Tryz.f177),
  (178, Tryz.f178),
  (179, Tryz.f179),
  (180, Tryz.f180),
  (181, Tryz.f181),
  (182, Tryz.f182),
  (183, Tryz.f183),
  (184, Tryz.f184),
  (185, Tryz.f185),
  (186, Tryz.f186),
  (187, Tryz.f187),
  (188, Tryz.f188),
  (189, Tryz.f189),
  (190, Tryz.f190),
  (191, Tryz.f191),
  (192, Tryz.f192),
  (193, Tryz.f193),
  (194, Tryz.f194),
  (195, Tryz.f195),
  (196, Tryz.f196),
  (197, Tryz.f197),
  (198, Tryz.f198),
  (199, Tryz.f199),
  (200, Tryz.f200)]
 hint := [(7, [(4, { keep := [2, 3, 4, 5], ids := [2, 4, 9, 40, 71, 86], out := some ([2, 3, 4], [2, 4, 9, 40, 71, 86]) }), (9, { keep := [2, 3, 4, 6], ids := [2, 4, 9, 40, 71, 86], out := some ([2, 3, 4], [2, 4, 9, 40, 71, 86]) })]),
  (8, [(4, { keep := [2, 5, 6, 7], ids := [2, 13, 66], out := some ([6], [66]) })]),
  (14, [(3, { keep := [1, 3, 7, 8], ids := [3, 11, 64], out := some ([8], [64]) })]),
  (16, [(4, { keep := [2, 17, 18, 19], ids := [2], out := some ([4], []) }), (9, { keep := [2, 6, 17, 18, 19, 45, 46], ids := [2, 6], out := some ([2, 4, 6, 17, 18, 19], [2, 6]) })]),
  (17, [(4, { keep := [1, 2, 5], ids := [2], out := some ([4], []) })]),
  (20, [(3, { keep := [7, 8], ids := [12], out := some ([7], [12]) })]),
  (21, [(4, { keep := [0, 5, 6, 7], ids := [9, 27], out := some ([6], [27]) })]),
  (26, [(4, { keep := [0, 2, 3, 4, 5], ids := [2, 3, 21, 46], out := some ([0, 2, 3, 4], [2, 3, 21, 46]) }), (8, { keep := [0, 2, 3, 4, 6], ids := [2, 3, 21, 24, 46], out := some ([2, 3], [2, 3, 21, 46]) })]),
  (28, [(3, { keep := [0, 3, 5, 6], ids := [3, 8, 10, 36], out := some ([5], [8, 36]) })]),
  (34, [(4, { keep := [0, 1, 5], ids := [], out := some ([4], []) })]),
  (36, [(5, { keep := [1, 2, 5, 6], ids := [2, 54], out := some ([5], [54]) })]),
  (37, [(4, { keep := [0, 1, 5], ids := [], out := some ([4], []) })]),
  (38, [(6, { keep := [5, 6, 29, 30, 31], ids := [23, 27, 49], out := some ([6], [27, 49]) })]),
  (39, [(6, { keep := [2, 5, 6, 7], ids := [2, 22, 56], out := some ([6], [56]) })]),
  (40, [(3, { keep := [0, 1, 4, 5, 6], ids := [4, 5, 24], out := some ([4, 5], [4, 5, 24]) })]),
  (43, [(4, { keep := [1, 17, 18], ids := [1], out := some ([1, 2], [1, 23]) })]),
  (45, [(4, { keep := [1, 3], ids := [1], out := some ([1, 2], [1, 27]) }), (12, { keep := [1, 5], ids := [1], out := some ([2], [27]) })]),
  (46, [(2, { keep := [1, 2, 5], ids := [2], out := some ([4], []) })]),
  (49, [(4, { keep := [1, 2, 3, 8], ids := [3], out := some ([6, 7], []) })]),
  (50, [(4, { keep := [1, 2, 3, 7], ids := [3], out := some ([6], []) })]),
  (53, [(4, { keep := [7, 8, 21, 22, 23], ids := [17, 20, 53], out := some ([8], [20, 53]) })]),
  (54, [(2, { keep := [1, 8, 9, 10], ids := [], out := some ([4, 5], []) })]),
  (55, [(2, { keep := [1, 7, 8, 9], ids := [], out := some ([4], []) })]),
  (59, [(3, { keep := [1, 2, 3, 5], ids := [1, 2, 3, 12], out := some ([2, 3], [2, 3, 12]) })]),
  (63, [(3, { keep := [2, 3, 4, 5, 6], ids := [2, 3, 4, 5, 34], out := some ([4, 5], [4, 5, 34]) })]),
  (65, [(3, { keep := [1, 5, 13, 14, 15], ids := [11, 27, 43], out := some ([5], [11, 27, 43]) })]),
  (69, [(4, { keep := [0, 1, 5], ids := [], out := some ([4], []) })]),
  (70, [(7, { keep := [1, 20, 21, 22], ids := [1], out := some ([1, 2], [1, 11, 28]) }), (16, { keep := [1, 38, 39, 40], ids := [1], out := some ([2], [11, 28]) })]),
  (72, [(5, { keep := [3, 5, 16, 17, 18], ids := [3, 14, 28], out := some ([5], [14, 28]) })]),
  (73, [(7, { keep := [1, 4], ids := [1], out := some ([1, 2], [1, 10]) }), (13, { keep := [1, 4, 5, 6], ids := [1, 5], out := some ([1, 2, 4], [1, 10]) }), (20, { keep := [1, 7], ids := [1], out := some ([2], [10]) })]),
  (75, [(5, { keep := [2, 3, 5, 6], ids := [2, 3, 27], out := some ([5], [27]) })]),
  (83, [(2, { keep := [5, 6], ids := [], out := some ([2], []) })]),
  (84, [(5, { keep := [0, 1, 5, 6], ids := [5], out := some ([1, 4, 5], [5]) })]),
  (87, [(5, { keep := [2, 3, 6, 7, 8], ids := [2, 3], out := some ([6, 7], []) })]),
  (89, [(4, { keep := [1, 2, 14, 15, 16], ids := [], out := some ([6], []) })]),
  (97, [(3, { keep := [2, 3, 4, 5, 10], ids := [2, 3, 4, 5], out := some ([4, 5], [4, 5]) }), (6, { keep := [2, 3, 4, 5, 6, 10, 13], ids := [2, 3, 4, 5], out := some ([2, 3, 4, 5, 10], [2, 3, 4, 5]) }), (10, { keep := [2, 3, 4, 5, 6, 7, 8, 10, 13, 16], ids := [2, 3, 4, 5, 8, 31], out := some ([2, 3, 4, 5, 6, 7, 8, 10, 13], [2, 3, 4, 5, 8, 31]) })]),
  (98, [(3, { keep := [0, 1, 3], ids := [0, 1, 8], out := some ([0, 1], [0, 1, 8]) })]),
  (108, [(2, { keep := [0, 3], ids := [], out := some ([2], []) })]),
  (111, [(3, { keep := [2, 3, 4, 5, 6], ids := [2, 3, 4, 5], out := some ([4, 5], [4, 5]) }), (6, { keep := [2, 3, 4, 5, 6, 7], ids := [2, 3, 4, 5], out := some ([2, 3, 4, 5, 6], [2, 3, 4, 5]) })]),
  (112, [(5, { keep := [37, 38, 39], ids := [], out := some ([4], []) }), (8, { keep := [37, 38, 39, 43, 44], ids := [], out := some ([4, 37, 38, 39], []) })]),
  (115, [(4, { keep := [28, 29, 30], ids := [], out := some ([2], []) }), (7, { keep := [28, 29, 30, 34, 35], ids := [], out := some ([2, 28, 29, 30], []) })]),
  (119, [(4, { keep := [1, 3], ids := [1], out := some ([2], []) })]),
  (120, [(4, { keep := [1, 2, 14, 15, 16], ids := [], out := some ([6], []) })]),
  (123, [(4, { keep := [18], ids := [18], out := some ([2], []) })]),
  (124, [(2, { keep := [1, 2, 8, 9], ids := [2], out := some ([4], []) })]),
  (125, [(2, { keep := [5, 6], ids := [], out := some ([2], []) })]),
  (128, [(2, { keep := [0, 1, 7, 8], ids := [], out := some ([4], []) })]),
  (129, [(4, { keep := [0, 3], ids := [], out := some ([2], []) })]),
  (131, [(4, { keep := [0, 1, 5], ids := [], out := some ([4], []) })]),
  (132, [(5, { keep := [1, 3, 4], ids := [1, 30], out := some ([3], [30]), own := [(3, 30, 71, 2)] })]),
  (133, [(2, { keep := [1, 3], ids := [1], out := some ([2], []) })]),
  (137, [(4, { keep := [15, 16, 17], ids := [], out := some ([2], []) }), (7, { keep := [15, 16, 17, 21, 22], ids := [], out := some ([2, 15, 16, 17], []) })]),
  (138, [(3, { keep := [2, 6, 7, 12, 13], ids := [2], out := some ([6, 7], []) })]),
  (140, [(3, { keep := [2, 3, 4, 5, 7], ids := [2, 3, 4, 5, 17], out := some ([4, 5], [4, 5, 17]) })]),
  (141, [(3, { keep := [2, 3, 4, 5, 8], ids := [2, 3, 4, 5, 27], out := some ([4, 5], [4, 5, 27]) }), (6, { keep := [2, 3, 4, 5, 6, 8, 11], ids := [2, 3, 4, 5, 27], out := some ([2, 3, 4, 5, 8], [2, 3, 4, 5, 27]) })]),
  (143, [(6, { keep := [4, 6, 7, 40, 41], ids := [4, 53], out := some ([4, 6, 7], [4, 53]) })]),
  (151, [(2, { keep := [0, 1, 7, 8], ids := [], out := some ([4], []) })]),
  (154, [(3, { keep := [1, 2, 7, 13, 14, 15], ids := [12, 28], out := some ([7], [12, 28]) })]),
  (184, [(2, { keep := [0, 1, 7, 8], ids := [], out := some ([4], []) })]),
  (195, [(5, { keep := [2, 3, 4, 5, 6], ids := [2, 3, 4, 5, 9, 13, 27, 37], out := some ([2, 3, 4, 5], [2, 3, 4, 5, 9, 13, 27, 37]) })]),
  (197, [(6, { keep := [2, 3, 4, 5, 6], ids := [2, 3, 4, 5, 11, 15, 29, 39], out := some ([2, 3, 4, 5], [2, 3, 4, 5, 11, 15, 29, 39]) })]),
  (198, [(3, { keep := [3, 4, 7, 8, 9], ids := [], out := some ([3], []) })])]
 rw := [26,
  27,
  28,
  29,
  56,
  78]
 ow := [(3, [16]),
  (20, [12])]
 dd := []
theorem eq39 : aggB Tryz.prog 39 = true ∧ ∀ vs, KV [.i .i64, .i .i64, .i .i64] vs → qXZ Tryz.prog 12 39 vs = true := by
 refine ⟨by kernel_rfl, fun vs h => ?_⟩
 obtain ⟨v0, u0, rfl, ⟨x0, rfl⟩, h0⟩ := h
 obtain ⟨v1, u1, rfl, ⟨x1, rfl⟩, h1⟩ := h0
 obtain ⟨v2, u2, rfl, ⟨x2, rfl⟩, h2⟩ := h1
 obtain rfl : u2 = [] := h2
 kernel_rfl
theorem eq52 : aggB Tryz.prog 52 = true ∧ ∀ vs, KV [.i .i64, .i .i64] vs → qXZ Tryz.prog 12 52 vs = true := by
 refine ⟨by kernel_rfl, fun vs h => ?_⟩
 obtain ⟨v0, u0, rfl, ⟨x0, rfl⟩, h0⟩ := h
 obtain ⟨v1, u1, rfl, ⟨x1, rfl⟩, h1⟩ := h0
 obtain rfl : u1 = [] := h1
 kernel_rfl
theorem eq75 : aggB Tryz.prog 75 = true ∧ ∀ vs, KV [.i .i64, .i .i64, .i .i64, .i .i64, .i .i64, .i .i64] vs → qXZ Tryz.prog 12 75 vs = true := by
 refine ⟨by kernel_rfl, fun vs h => ?_⟩
 obtain ⟨v0, u0, rfl, ⟨x0, rfl⟩, h0⟩ := h
 obtain ⟨v1, u1, rfl, ⟨x1, rfl⟩, h1⟩ := h0
 obtain ⟨v2, u2, rfl, ⟨x2, rfl⟩, h2⟩ := h1
 obtain ⟨v3, u3, rfl, ⟨x3, rfl⟩, h3⟩ := h2
 obtain ⟨v4, u4, rfl, ⟨x4, rfl⟩, h4⟩ := h3
 obtain ⟨v5, u5, rfl, ⟨x5, rfl⟩, h5⟩ := h4
 obtain rfl : u5 = [] := h5
 kernel_rfl
theorem eq77 : aggB Tryz.prog 77 = true ∧ ∀ vs, KV [.i .i64, .i .i64, .i .i64, .i .i64, .i .i64, .i .i64, .i .i64, .i .i64, .i .i64, .i .i64, .i .i64, .i .i64, .i .i64, .i .i64, .i .i64, .i .i64, .i .i64, .i .i64, .i .i64, .i .i64, .i .i64, .i .i64, .i .i64, .i .i64] vs → qXZ Tryz.prog 12 77 vs = true := by
 refine ⟨by kernel_rfl, fun vs h => ?_⟩
 obtain ⟨v0, u0, rfl, ⟨x0, rfl⟩, h0⟩ := h
 obtain ⟨v1, u1, rfl, ⟨x1, rfl⟩, h1⟩ := h0
 obtain ⟨v2, u2, rfl, ⟨x2, rfl⟩, h2⟩ := h1
 obtain ⟨v3, u3, rfl, ⟨x3, rfl⟩, h3⟩ := h2
 obtain ⟨v4, u4, rfl, ⟨x4, rfl⟩, h4⟩ := h3
 obtain ⟨v5, u5, rfl, ⟨x5, rfl⟩, h5⟩ := h4
 obtain ⟨v6, u6, rfl, ⟨x6, rfl⟩, h6⟩ := h5
 obtain ⟨v7, u7, rfl, ⟨x7, rfl⟩, h7⟩ := h6
 obtain ⟨v8, u8, rfl, ⟨x8, rfl⟩, h8⟩ := h7
 obtain ⟨v9, u9, rfl, ⟨x9, rfl⟩, h9⟩ := h8
 obtain ⟨v10, u10, rfl, ⟨x10, rfl⟩, h10⟩ := h9
 obtain ⟨v11, u11, rfl, ⟨x11, rfl⟩, h11⟩ := h10
 obtain ⟨v12, u12, rfl, ⟨x12, rfl⟩, h12⟩ := h11
 obtain ⟨v13, u13, rfl, ⟨x13, rfl⟩, h13⟩ := h12
 obtain ⟨v14, u14, rfl, ⟨x14, rfl⟩, h14⟩ := h13
 obtain ⟨v15, u15, rfl, ⟨x15, rfl⟩, h15⟩ := h14
 obtain ⟨v16, u16, rfl, ⟨x16, rfl⟩, h16⟩ := h15
 obtain ⟨v17, u17, rfl, ⟨x17, rfl⟩, h17⟩ := h16
 obtain ⟨v18, u18, rfl, ⟨x18, rfl⟩, h18⟩ := h17
 obtain ⟨v19, u19, rfl, ⟨x19, rfl⟩, h19⟩ := h18
 obtain ⟨v20, u20, rfl, ⟨x20, rfl⟩, h20⟩ := h19
 obtain ⟨v21, u21, rfl, ⟨x21, rfl⟩, h21⟩ := h20
 obtain ⟨v22, u22, rfl, ⟨x22, rfl⟩, h22⟩ := h21
 obtain ⟨v23, u23, rfl, ⟨x23, rfl⟩, h23⟩ := h22
 obtain rfl : u23 = [] := h23
 kernel_rfl
theorem fns : AllP (fun x : Nat × Func => Tryz.prog.funcs[x.1]? = some x.2) tabs.fn := ⟨Tryz.func3, Tryz.func4, Tryz.func5, Tryz.func6, Tryz.func7, Tryz.func8, Tryz.func9, Tryz.func10, Tryz.func11, Tryz.func12, Tryz.func13, Tryz.func14, Tryz.func15, Tryz.func16, Tryz.func17, Tryz.func18, Tryz.func19, Tryz.func20, Tryz.func21, Tryz.func22, Tryz.func23, Tryz.func24, Tryz.func25, Tryz.func26, Tryz.func27, Tryz.func28, Tryz.func29, Tryz.func30, Tryz.func31, Tryz.func32, Tryz.func33, Tryz.func34, Tryz.func35, Tryz.func36, Tryz.func37, Tryz.func38, Tryz.func39, Tryz.func40, Tryz.func41, Tryz.func42, Tryz.func43, Tryz.func44, Tryz.func45, Tryz.func46, Tryz.func47, Tryz.func48, Tryz.func49, Tryz.func50, Tryz.func51, Tryz.func52, Tryz.func53, Tryz.func54, Tryz.func55, Tryz.func56, Tryz.func57, Tryz.func58, Tryz.func59, Tryz.func60, Tryz.func61, Tryz.func62, Tryz.func63, Tryz.func64, Tryz.func65, Tryz.func66, Tryz.func67, Tryz.func68, Tryz.func69, Tryz.func70, Tryz.func71, Tryz.func72, Tryz.func73, Tryz.func74, Tryz.func75, Tryz.func76, Tryz.func77, Tryz.func78, Tryz.func79, Tryz.func80, Tryz.func81, Tryz.func82, Tryz.func83, Tryz.func84, Tryz.func85, Tryz.func86, Tryz.func87, Tryz.func88, Tryz.func89, Tryz.func90, Tryz.func91, Tryz.func92, Tryz.func93, Tryz.func94, Tryz.func95, Tryz.func96, Tryz.func97, Tryz.func98, Tryz.func99, Tryz.func100, Tryz.func101, Tryz.func102, Tryz.func103, Tryz.func104, Tryz.func105, Tryz.func106, Tryz.func107, Tryz.func108, Tryz.func109, Tryz.func110, Tryz.func111, Tryz.func112, Tryz.func113, Tryz.func114, Tryz.func115, Tryz.func116, Tryz.func117, Tryz.func118, Tryz.func119, Tryz.func120, Tryz.func121, Tryz.func122, Tryz.func123, Tryz.func124, Tryz.func125, Tryz.func126, Tryz.func127, Tryz.func128, Tryz.func129, Tryz.func130, Tryz.func131, Tryz.func132, Tryz.func133, Tryz.func134, Tryz.func135, Tryz.func136, Tryz.func137, Tryz.func138, Tryz.func139, Tryz.func140, Tryz.func141, Tryz.func142, Tryz.func143, Tryz.func144, Tryz.func145, Tryz.func146, Tryz.func147, Tryz.func148, Tryz.func149, Tryz.func150, Tryz.func151, Tryz.func152, Tryz.func153, Tryz.func154, Tryz.func155, Tryz.func156, Tryz.func157, Tryz.func158, Tryz.func159, Tryz.func160, Tryz.func161, Tryz.func162, Tryz.func163, Tryz.func164, Tryz.func165, Tryz.func166, Tryz.func167, Tryz.func168, Tryz.func169, Tryz.func170, Tryz.func171, Tryz.func172, Tryz.func173, Tryz.func174, Tryz.func175, Tryz.func176, Tryz.func177, Tryz.func178, Tryz.func179, Tryz.func180, Tryz.func181, Tryz.func182, Tryz.func183, Tryz.func184, Tryz.func185, Tryz.func186, Tryz.func187, Tryz.func188, Tryz.func189, Tryz.func190, Tryz.func191, Tryz.func192, Tryz.func193, Tryz.func194, Tryz.func195, Tryz.func196, Tryz.func197, Tryz.func198, Tryz.func199, Tryz.func200, trivial⟩
theorem ok_sz : tabs.sz.all (fun x => tyB Tryz.prog x.1 x.2.1 x.2.2 && (x.2.1 || Nat.beq x.2.2 1)) = true := by kernel_rfl
theorem ok_zr : tabs.zr.map (fun x => (Tryz.prog.info? x.1).bind (·.zero)) = tabs.zr.map (fun x => some x.2) := by kernel_rfl
theorem ok_fd : tabs.fd.all (fun x => allI (fun f o => qWQ Tryz.prog x.1 f o) 0 x.2) = true := by kernel_rfl
theorem ok_fx : tabs.fx.all (fun x => allI (fxB Tryz.prog x.1) 0 x.2) = true := by kernel_rfl
theorem ok_ar : tabs.ar.all (fun x => arX Tryz.prog x.1 x.2) = true := by kernel_rfl
theorem ok_sl : tabs.sl.all (fun x => slcB Tryz.prog x.1 x.2.1 x.2.2.1 && Nat.blt 0 x.2.2.1 && Nat.ble x.2.2.1 1000 && appB Tryz.prog x.1 x.2.1 x.2.2.1 x.2.2.2 && Nat.ble x.2.2.2 100000) = true := by kernel_rfl
theorem ok_ly : tabs.ly.map (fun x => (qYZ Tryz.prog x.1).map (·.2)) = tabs.ly.map (fun x => some x.2) := by kernel_rfl
theorem ok_ik : tabs.ik.map (fun x => Tryz.prog.underlying x.1) = tabs.ik.map (fun x => some (.int x.2)) := by kernel_rfl
theorem ok_str : tabs.str.map (fun x => Tryz.prog.underlying x) = tabs.str.map (fun _ => some .string) := by kernel_rfl
theorem ok_bo : tabs.bo.map (fun x => Tryz.prog.underlying x) = tabs.bo.map (fun _ => some .bool) := by kernel_rfl
theorem ok_fn2 : tabs.fn.all (fun x => !(x.2.name == "runtime.NumGoroutine") && !x.2.body.isNone) = true := by kernel_rfl
theorem ok : tabs.Ok Tryz.prog := ⟨ok_sz, ok_zr, ok_fd, ok_fx, ok_ar, ok_sl, ok_ly, ok_ik, ok_str, ok_bo, ⟨eq39, eq52, eq75, eq77, trivial⟩, fns, ok_fn2, fun f hf => by simp [tabs] at hf⟩
noncomputable def T : Tab := tabs.tab
theorem tabOk : TabOk Tryz.prog T := Tabs.ok ok
theorem mixed : Tryz.prog.follows .mixedOrders = true := by kernel_rfl
end Go.Proofs.YtmbnpjpggccefaaGreat.Rt
namespace Go.Rx
open Go.RowKit Go.Sx
def kB : IntKind → IntKind → Bool
 | .i64, .i64 => true
 | .i32, .i32 => true
 | .u64, .u64 => true
 | .u8, .u8 => true
 | _, _ => false
theorem kB_eq {k k' : IntKind} (h : kB k k' = true) : k = k' := by cases k <;> cases k' <;> first | rfl | cases h
def eqP : Nat → PV → PV → Bool
 | 0, _, _ => false
 | _ + 1, .n k x, .n k' y => kB k k' && decide (x = y)
 | _ + 1, .b x, .b y => x == y
 | _ + 1, .s x, .s y => decide (x.data.toList = y.data.toList)
 | n + 1, .a xs, .a ys => eqL n xs ys
 | n + 1, .t xs, .t ys => eqL n xs ys
 | n + 1, .l xs, .l ys => eqLL n xs ys
 | n + 1, .z xs j o, .z ys j' o' => eqLL n xs ys && Nat.beq j j' && Nat.beq o o'
 | n + 1, .c xs o, .c ys o' => eqL n xs ys && Nat.beq o o'
 | n + 1, .f f fs cs, .f f' fs' cs' => Nat.beq f f' && eqL n fs fs' && eqL n cs cs'
 | _ + 1, .ni, .ni => true
 | _ + 1, .np, .np => true
 | _ + 1, .nf, .nf => true
 | _ + 1, _, _ => false
where
 eqL : Nat → List PV → List PV → Bool
 | 0, _, _ => false
 | _ + 1, [], [] => true
 | n + 1, x :: xs, y :: ys => eqP n x y && eqL n xs ys
 | _ + 1, _, _ => false
 eqLL : Nat → List (List PV) → List (List PV) → Bool
 | 0, _, _ => false
 | _ + 1, [], [] => true
 | n + 1, x :: xs, y :: ys => eqP.eqL n x y && eqLL n xs ys
 | _ + 1, _, _ => false
theorem bytes_eq {x y : ByteArray} (h : x.data.toList = y.data.toList) : x = y := by
 cases x; cases y
 congr 1
 exact Array.toList_inj.1 h
theorem eq_all : ∀ n, (∀ p q, eqP n p q = true → p = q) ∧ (∀ p q, eqP.eqL n p q = true → p = q) ∧ (∀ p q, eqP.eqLL n p q = true → p = q)
 | 0 => ⟨fun p q h => by simp [eqP] at h, fun p q h => by simp [eqP.eqL] at h, fun p q h => by simp [eqP.eqLL] at h⟩
 | n + 1 => by
  obtain ⟨h1, h2, h3⟩ := eq_all n
  refine ⟨fun p q h => ?_, fun p q h => ?_, fun p q h => ?_⟩
  ·cases p <;> cases q <;> simp only [eqP, Bool.and_eq_true, decide_eq_true_eq, beq_iff_eq] at h <;> first | (cases h; done) | skip
   ·rw [kB_eq h.1, h.2]
   ·rw [h]
   ·rw [bytes_eq h]
   ·rw [h2 _ _ h]
   ·rw [h2 _ _ h]
   ·rw [h3 _ _ h]
   ·rw [h3 _ _ h.1.1, Nat.eq_of_beq_eq_true h.1.2, Nat.eq_of_beq_eq_true h.2]
   ·rw [h2 _ _ h.1, Nat.eq_of_beq_eq_true h.2]
   ·rw [Nat.eq_of_beq_eq_true h.1.1, h2 _ _ h.1.2, h2 _ _ h.2]
   ·rfl
   ·rfl
   ·rfl
  ·cases p <;> cases q <;> simp only [eqP.eqL, Bool.and_eq_true] at h <;> first | (cases h; done) | skip
   ·rfl
   ·rw [h1 _ _ h.1, h2 _ _ h.2]
  ·cases p <;> cases q <;> simp only [eqP.eqLL, Bool.and_eq_true] at h <;> first | (cases h; done) | skip
   ·rfl
   ·rw [h2 _ _ h.1, h3 _ _ h.2]
abbrev Known := List (Nat × List (List PV × Ret))
def findK : List (List PV × Ret) → List PV → Option Ret
 | [], _ => none
 | (ps, r) :: l, qs => bif eqP.eqL 200 ps qs then some r else findK l qs
def Known.orc (t : Known) : Orc := ⟨fun g => (asc t g).bind fun l => some (findK l), fun _ => none⟩
def Known.Ok (P : Program) (t : Known) : Prop := ∀ x ∈ t, ∀ y ∈ x.2, SndA1 P x.1 y.1 y.2
theorem findK_mem {l : List (List PV × Ret)} {qs : List PV} {r : Ret} (h : findK l qs = some r) : (qs, r) ∈ l := by
 induction l with
 | nil => cases h
 | cons y l ih =>
  obtain ⟨ps, r'⟩ := y
  simp only [findK] at h
  cases hc : eqP.eqL 200 ps qs with
  | true => rw [hc] at h; cases h; rw [(eq_all 200).2.1 _ _ hc]; exact List.mem_cons_self
  | false => rw [hc] at h; exact List.mem_cons_of_mem _ (ih h)
theorem Known.ok {P : Program} {t : Known} (h : t.Ok P) : OrcOk P t.orc := by
 refine ⟨fun g o ho ps r hr => ?_, fun g o ho => by simp [Known.orc] at ho⟩
 simp only [Known.orc, Option.bind_eq_some_iff, Option.some.injEq] at ho
 obtain ⟨l, hl, rfl⟩ := ho
 exact h _ (qVZ hl) _ (findK_mem hr)
theorem Known.nil (P : Program) : Known.Ok P [] := fun x hx => by simp at hx
theorem Known.add {P : Program} {T : Tab} {t : Known} {f : Nat} {l : List (List PV × Ret)} {N : Nat} (hT : TabOk P T) (hm : P.follows .mixedOrders = true) (ht : t.Ok P) (h : l.map (fun y => run T t.orc N f y.1) = l.map (fun y => some y.2)) : Known.Ok P ((f, l) :: t) := fun x hx => by
 rcases List.mem_cons.1 hx with rfl | hx
 ·exact fun y hy => run_sound hT hm (Known.ok ht) (zYV h hy)
 ·exact ht x hx
end Go.Rx
namespace Go.Rx
open Go.RowKit Go.Sx
section
abbrev α := Ret × Mem
abbrev CallK := Nat → List PV → (Ret → Option α) → Option α
def splitK (e : Eff) (K : Eff → Option α) : Option α := match e with
 | ⟨[], [], .v (.b c), []⟩ => bif c then K (.val (.v (.b true))) else K (.val (.v (.b false)))
 | e => K e
theorem splitK_eq (e : Eff) (K : Eff → Option α) : splitK e K = K e := by
 unfold splitK
 split
 ·rename_i c; cases c <;> rfl
 ·rfl
def callEffK (C : Cx) (cK : CallK) (dst f : Nat) (args : List RV) (K : Eff → Option α) : Option α :=
 (mapO RV.fz args).bind fun ps => cK f ps fun r =>
  (bif args.all RV.still then retEff C.T C.me dst (catR RV.regs args) r
  else match r with
   | .v x => bif x.flat then some (.val (.v x)) else none
   | .ow _ _ rows => bif rows.all (fun r => r.all PV.flat1) then some (.val (.v (.l rows))) else none
   | _ => none).bind fun e => splitK e K
def zYZ (s : ByteArray) (i : Nat) : Int := (((s[i]?).getD 0).toNat : Int)
def evalK (C : Cx) (cK : CallK) (dst : Nat) (op : Op) (vs : List RV) (K : Eff → Option α) : Option α :=
 match op, vs with
 | .binOp .quo _ _ _ _, [.v (.n k x), .v (.n k' y)] => bif decide (k = k') then (bif decide (y = 0) then none else K (.val (.v (.n k (k.wrap (x.tdiv y)))))) else none
 | .binOp .rem _ _ _ _, [.v (.n k x), .v (.n k' y)] => bif decide (k = k') then (bif decide (y = 0) then none else K (.val (.v (.n k (x.tmod y))))) else none
 | .call ⟨.builtin .append, axs, ats⟩, [.o id e' sz rows, y] => (match ats.toList with
   | [t, t'] => bif Nat.beq t t' then (C.T.sl t).bind fun e => (newsOf y).bind fun news => bif rowOk news 0 e.2 then (bif Nat.beq e' e.1 && Nat.beq sz e.2 && !(y.ids.any (Nat.beq id)) then
     (bif decide (rows.length + news.length ≤ 1000000) then K (.app id (.reg e' sz (rows ++ news)) (.o id)) else none) else none) else none else none
   | _ => none)
 | .index t _ _, [.v (.s s), .v (.n _ i)] => bif C.T.str t then (bif inB i s.size then K (.val (.v (.n .u8 (zYZ s i.toNat)))) else none) else none
 | .next _ true, [.i id 0 s pos] => bif decide (pos < s.size) then K (.set id (.itr s (pos + (Utf8.decode s pos).2)) (.v (.t [.b true, .n .i64 (pos : Int), .n .i32 ((Utf8.decode s pos).1 : Int)]))) else K (.val (.v (.t [.b false])))
 | .indexAddr t _ _, [.v (.lf n f), .v (.n _ i)] => (C.T.sl t).bind fun e => bif inB i n then (bif Nat.beq (f i.toNat).length e.2 then K (.val (.v (.zf n f i.toNat 0))) else none) else none
 | .call ⟨.value fx, axs, ats⟩, .v (.f f first cap) :: vs => bif C.T.rw f then (evalO C.T C.cA C.cB C.me dst (.call ⟨.value fx, axs, ats⟩) (.v (.f f first cap) :: vs)).bind fun e => splitK e K
   else callEffK C cK dst f (first.map .v ++ vs ++ cap.map .v) K
 | op, vs => (evalO C.T C.cA C.cB C.me dst op vs).bind fun e => splitK e K
def goK (C : Cx) (cK : CallK) (o : Oper) (σ : St) (K : Eff × List RV → Option α) : Option α :=
 bif dstB C.n o.dst then
  (mapO (opv (mode o.op) σ) o.op.operands.toList).bind fun vs => evalK C cK (o.dst.getD 0) o.op vs fun e =>
   bif e.nw.all (fun id => (lookM σ.M id).isNone) then K (e, vs) else none
 else none
def skipK (C : Cx) (o : Oper) (K : Eff × List RV → Option α) : Option α := bif dstB C.n o.dst then K (.val (.v (.t [])), []) else none
def stepK (C : Cx) (cK : CallK) (ops : Array Oper) (o : Oper) (σ : St) (K : Eff × List RV → Option α) : Option α :=
 match o.guard with
 | none => goK C cK o σ K
 | some (j, b) => match (ops[j]?).bind (·.dst) with
  | some d => match lookS σ.S d with
   | some (.v (.b c)) => (match b with
    | true => bif c then goK C cK o σ K else skipK C o K
    | false => bif c then skipK C o K else goK C cK o σ K)
   | some (.v (.t [])) => skipK C o K
   | _ => none
  | none => none
end
def runOpsK (C : Cx) (cK : CallK) (ops : Array Oper) : List Oper → (St → Option (Ret × Mem)) → St → Option (Ret × Mem)
 | [], K, σ => K σ
 | o :: l, K, σ => stepK C cK ops o σ fun r => runOpsK C cK ops l K (σ.apply r.1 o.dst)
def runDrawK (C : Cx) (cK : CallK) (ops : Array Oper) : Nat → List Oper → List Done → (St → Option (Ret × Mem)) → St → Option (Ret × Mem)
 | _, [], acc, K, σ => bif pairsB ops acc.reverse && Sx.backB ops then K σ else none
 | i, o :: l, acc, K, σ => stepK C cK ops o σ fun r => runDrawK C cK ops (i + 1) l ((i, r) :: acc) K (σ.apply r.1 o.dst)
def runCK (N : Nat) (C : Cx) (cK : CallK) : Code → (Ex → St → Option (Ret × Mem)) → St → Option (Ret × Mem)
 | .skip, K, σ => K .normal σ
 | .label _, K, σ => K .normal σ
 | .scope x, K, σ => runCK N C cK x K σ
 | .ret, K, σ => K .ret σ
 | .exit id, K, σ => K (.exit id) σ
 | .region _ ops d, K, σ => bif d then runDrawK C cK ops 0 ops.toList [] (K .normal) σ else runOpsK C cK ops ops.toList (K .normal) σ
 | .seq x y, K, σ => runCK N C cK x (fun e σ => match e with
   | .normal => runCK N C cK y K σ
   | e => K e σ) σ
 | .cond c x y, K, σ => (opv 1 σ c).bind fun v => match v with
   | .v (.b t) => bif t then runCK N C cK x K σ else runCK N C cK y K σ
   | _ => none
 | .block id x, K, σ => runCK N C cK x (fun e σ => match e with
   | .exit id' => bif Nat.beq id' id then K .normal σ else K (.exit id') σ
   | e => K e σ) σ
 | .loop x, K, σ => loopN (fun again σ => runCK N C cK x (fun e σ => match e with
   | .normal => again σ
   | e => K e (qVU (C.T.hint C.me (kK x)) σ)) (prune (C.T.hint C.me (kK x)) σ)) N σ
 | _, _, _ => none
abbrev OrK := Nat → Option (List PV → Option (Bool × Ret))
def OrK.orc (o : OrK) : Orc := ⟨fun g => (o g).bind fun f => some fun ps => (f ps).bind fun x => bif x.1 then some x.2 else none, fun _ => none⟩
def callAK (ok : OrK) (rK : CallK) : CallK := fun g ps K => match ok g with
 | some o => (o ps).bind fun x => bif x.1 then K x.2 else none
 | none => rK g ps K
def runFK (T : Tab) (ok : OrK) : Nat → CallK
 | 0, _, _, _ => none
 | N + 1, f, ps, K => match T.fn f with
  | none => none
  | some fi => bif Nat.ble (ps.map HV.v).length fi.ntmps then runCK N ⟨T, callA ok.orc (runF T ok.orc N), callB ok.orc (runF T ok.orc N), f, fi.ntmps⟩ (callAK ok (runFK T ok N)) fi.body (fun e σ => (endK T [] fi.results e σ).bind fun r => K r.1) ⟨initS 0 (ps.map .v), []⟩ else none
def runK (T : Tab) (ok : OrK) (N f : Nat) (ps : List PV) : Option (Ret × Mem) := runFK T ok N f ps fun r => some (r, [])
section
variable {C : Cx} {cK : CallK} {ops : Array Oper} {r : α}
def SndK (C : Cx) (cK : CallK) : Prop := ∀ f ps K r, cK f ps K = some r → ∃ x, C.cA f ps = some x ∧ K x = some r
theorem evalK_some {dst : Nat} {op : Op} {vs : List RV} {K : Eff → Option α} (hc : SndK C cK) (h : evalK C cK dst op vs K = some r) : ∃ e, evalO C.T C.cA C.cB C.me dst op vs = some e ∧ K e = some r := by
 unfold evalK at h
 split at h
 ·rename_i k x k' y
  obtain ⟨h1, h⟩ := yG h
  cases hy : decide (y = 0) with
  | true => rw [hy] at h; cases h
  | false =>
   rw [hy] at h
   refine ⟨_, ?_, h⟩
   simp [evalO, binP, binI, h1, hy]
 ·rename_i k x k' y
  obtain ⟨h1, h⟩ := yG h
  cases hy : decide (y = 0) with
  | true => rw [hy] at h; cases h
  | false =>
   rw [hy] at h
   refine ⟨_, ?_, h⟩
   simp [evalO, binP, binI, h1, hy]
 ·rename_i axs ats id e' sz rows y
  split at h
  ·rename_i t t' hts
   obtain ⟨h1, h⟩ := yG h
   simp only [Option.bind_eq_some_iff] at h
   obtain ⟨el, hel, news, hnews, h⟩ := h
   obtain ⟨h2, h⟩ := yG h
   obtain ⟨h3, h⟩ := yG h
   obtain ⟨h4, h⟩ := yG h
   refine ⟨_, ?_, h⟩
   rw [Bool.and_eq_true, Bool.and_eq_true] at h3
   simp only [evalO, hts, h1, cond_true, hel, hnews, Option.bind_some, h2, h3.1.1, h3.1.2, h3.2, h4, Bool.and_self]
  ·cases h
 ·rename_i t _ _ s _ i
  obtain ⟨h1, h⟩ := yG h
  obtain ⟨h2, h⟩ := yG h
  obtain ⟨i0, i1⟩ := inB_spec h2
  refine ⟨_, ?_, h⟩
  have hb : s[i.toNat]? = some (s[i.toNat]'(by omega)) := getElem?_pos s i.toNat (by omega)
  simp only [evalO, h1, decide_eq_true i0, Bool.and_self, cond_true, zYZ, hb, Option.bind_some, Option.getD_some]
 ·rename_i id s pos
  cases hp : decide (pos < s.size) with
  | true =>
   rw [hp] at h
   exact ⟨_, by simp only [evalO, hp, cond_true], h⟩
  | false =>
   rw [hp] at h
   exact ⟨_, by simp only [evalO, hp, cond_false], h⟩
 ·rename_i t _ _ n f _ i
  simp only [Option.bind_eq_some_iff] at h
  obtain ⟨el, hel, h⟩ := h
  obtain ⟨h1, h⟩ := yG h
  obtain ⟨h2, h⟩ := yG h
  exact ⟨_, by simp only [evalO, hel, Option.bind_some, h1, h2, Bool.and_self, cond_true], h⟩
 ·rename_i fx axs ats f first cap vs
  cases hrw : C.T.rw f with
  | true =>
   rw [hrw] at h
   simp only [cond_true, Option.bind_eq_some_iff] at h
   obtain ⟨e, he, h⟩ := h
   rw [splitK_eq] at h
   exact ⟨e, he, h⟩
  | false =>
   rw [hrw] at h
   simp only [cond_false, callEffK, Option.bind_eq_some_iff] at h
   obtain ⟨ps, hps, h⟩ := h
   obtain ⟨x, hx, h⟩ := hc _ _ _ _ h
   rw [Option.bind_eq_some_iff] at h
   obtain ⟨e, he, h⟩ := h
   rw [splitK_eq] at h
   refine ⟨e, ?_, h⟩
   simp only [evalO, hrw, cond_false, callEff, hps, hx, Option.bind_some]
   exact he
 ·rw [Option.bind_eq_some_iff] at h
  obtain ⟨e, he, h⟩ := h
  rw [splitK_eq] at h
  exact ⟨e, he, h⟩
theorem goK_some {o : Oper} {σ : St} {K : Eff × List RV → Option α} (hc : SndK C cK) (hg : qXJ ops σ o = some true) (h : goK C cK o σ K = some r) : ∃ x, stepO C ops o σ = some x ∧ K x = some r := by
 unfold goK at h
 obtain ⟨hd, h⟩ := yG h
 rw [Option.bind_eq_some_iff] at h
 obtain ⟨vs, hvs, h⟩ := h
 obtain ⟨e, he, h⟩ := evalK_some hc h
 obtain ⟨hn, h⟩ := yG h
 exact ⟨(e, vs), step_join hd (.inr ⟨hg, hvs, he, fun i hi => by simpa using List.all_eq_true.1 hn i hi⟩), h⟩
theorem skipK_some {o : Oper} {σ : St} {K : Eff × List RV → Option α} (hg : qXJ ops σ o = some false) (h : skipK C o K = some r) : ∃ x, stepO C ops o σ = some x ∧ K x = some r := by
 unfold skipK at h
 obtain ⟨hd, h⟩ := yG h
 exact ⟨_, step_join hd (.inl ⟨hg, rfl⟩), h⟩
theorem stepK_some {o : Oper} {σ : St} {K : Eff × List RV → Option α} (hc : SndK C cK) (h : stepK C cK ops o σ K = some r) : ∃ x, stepO C ops o σ = some x ∧ K x = some r := by
 unfold stepK at h
 cases hg : o.guard with
 | none => rw [hg] at h; exact goK_some hc (by unfold qXJ; rw [hg]) h
 | some gb =>
  obtain ⟨j, b⟩ := gb
  rw [hg] at h
  simp only at h
  split at h
  ·rename_i d hd
   split at h
   ·rename_i c hlc
    have gd : qXJ ops σ o = some (c == b) := by
     unfold qXJ
     rw [hg]
     simp only [hd, hlc]
    cases b <;> cases c <;> simp only [cond_true, cond_false] at h
    ·exact goK_some hc gd h
    ·exact skipK_some gd h
    ·exact skipK_some gd h
    ·exact goK_some hc gd h
   ·rename_i hlc
    exact skipK_some (by unfold qXJ; rw [hg]; simp only [hd, hlc]) h
   ·cases h
  ·cases h
end
section
variable {C : Cx} {ops : Array Oper} {r : Ret × Mem}
def Gets (K0 : Ret × Mem → Option (Ret × Mem)) (r : Ret × Mem) (x : Option (Ret × Mem)) : Prop := ∃ q, x = some q ∧ K0 q = some r
variable {K0 : Ret × Mem → Option (Ret × Mem)} {cK : CallK}
theorem runOpsK_some (hc : SndK C cK) {K K' : St → Option (Ret × Mem)} (hK : ∀ σ, K σ = some r → Gets K0 r (K' σ)) : ∀ (l : List Oper) (σ : St), runOpsK C cK ops l K σ = some r → Gets K0 r (runOps C ops l K' σ)
 | [], σ, h => hK σ h
 | o :: l, σ, h => by
  simp only [runOpsK] at h
  obtain ⟨x, hx, h⟩ := stepK_some hc h
  simp only [runOps, hx, Option.bind_some]
  exact runOpsK_some hc hK l _ h
theorem runDrawK_some (hc : SndK C cK) {K K' : St → Option (Ret × Mem)} (hK : ∀ σ, K σ = some r → Gets K0 r (K' σ)) : ∀ (l : List Oper) (i : Nat) (acc : List Done) (σ : St), runDrawK C cK ops i l acc K σ = some r → Gets K0 r (zQV C ops i l acc K' σ)
 | [], i, acc, σ, h => by
  simp only [runDrawK] at h
  obtain ⟨hp, h⟩ := yG h
  simp only [zQV, hp, cond_true]
  exact hK σ h
 | o :: l, i, acc, σ, h => by
  simp only [runDrawK] at h
  obtain ⟨x, hx, h⟩ := stepK_some hc h
  simp only [zQV, hx, Option.bind_some]
  exact runDrawK_some hc hK l _ _ _ h
theorem loopN_some {s s' : (St → Option (Ret × Mem)) → St → Option (Ret × Mem)} (h : ∀ a a' : St → Option (Ret × Mem), (∀ σ, a σ = some r → Gets K0 r (a' σ)) → ∀ σ, s a σ = some r → Gets K0 r (s' a' σ)) : ∀ (n : Nat) (σ : St), loopN s n σ = some r → Gets K0 r (loopN s' n σ)
 | 0, σ, hs => by cases hs
 | n + 1, σ, hs => h _ _ (loopN_some h n) σ hs
theorem qXK {N : Nat} (hc : SndK C cK) : ∀ (c : Code) {K K' : Ex → St → Option (Ret × Mem)} (hK : ∀ e σ, K e σ = some r → Gets K0 r (K' e σ)) (σ : St), runCK N C cK c K σ = some r → Gets K0 r (runC N C c K' σ)
 | .skip, K, K', hK, σ, h => hK _ _ h
 | .label _, K, K', hK, σ, h => hK _ _ h
 | .scope x, K, K', hK, σ, h => qXK hc x hK σ h
 | .ret, K, K', hK, σ, h => hK _ _ h
 | .exit id, K, K', hK, σ, h => hK _ _ h
 | .region id ops d, K, K', hK, σ, h => by
  cases d with
  | true => exact runDrawK_some hc (hK .normal) _ _ _ _ h
  | false => exact runOpsK_some hc (hK .normal) _ _ h
 | .seq x y, K, K', hK, σ, h => by
  refine qXK hc x (fun e τ hk => ?_) σ h
  cases e with
  | normal => exact qXK hc y hK τ hk
  | _ => exact hK _ _ hk
 | .cond c x y, K, K', hK, σ, h => by
  simp only [runCK, Option.bind_eq_some_iff] at h
  obtain ⟨v, hv, h⟩ := h
  simp only [runC, hv, Option.bind_some]
  split at h
  ·rename_i t
   cases t with
   | true => exact qXK hc x hK σ h
   | false => exact qXK hc y hK σ h
  ·cases h
 | .block id x, K, K', hK, σ, h => by
  refine qXK hc x (fun e τ hk => ?_) σ h
  cases e with
  | exit id' =>
   simp only at hk ⊢
   cases hb : Nat.beq id' id with
   | true => rw [hb] at hk; exact hK _ _ hk
   | false => rw [hb] at hk; exact hK _ _ hk
  | _ => exact hK _ _ hk
 | .loop x, K, K', hK, σ, h => by
  simp only [runCK] at h
  simp only [runC]
  refine loopN_some (fun a a' ha τ hs => ?_) N σ h
  refine qXK hc x (fun e υ hk => ?_) _ hs
  cases e with
  | normal => exact ha _ hk
  | _ => exact hK _ _ hk
 | .rangeFunc .., K, K', hK, σ, h => by cases h
 | .goto _, K, K', hK, σ, h => by cases h
 | .refuse _, K, K', hK, σ, h => by cases h
end
theorem runFK_some {T : Tab} {ok : OrK} : ∀ (N f : Nat) (ps : List PV) (K : Ret → Option (Ret × Mem)) (r : Ret × Mem), runFK T ok N f ps K = some r → ∃ x M, runF T ok.orc N f (ps.map .v) [] = some (x, M) ∧ K x = some r
 | 0, f, ps, K, r, h => by cases h
 | N + 1, f, ps, K, r, h => by
  simp only [runFK] at h
  split at h
  ·cases h
  ·rename_i fi hfi
   obtain ⟨hb, h⟩ := yG h
   have hc : SndK ⟨T, callA ok.orc (runF T ok.orc N), callB ok.orc (runF T ok.orc N), f, fi.ntmps⟩ (callAK ok (runFK T ok N)) := fun g qs K' r' hk => by
    unfold callAK at hk
    show ∃ x, callA ok.orc (runF T ok.orc N) g qs = some x ∧ K' x = some r'
    unfold callA
    cases ho : ok g with
    | some o =>
     rw [ho] at hk
     simp only [Option.bind_eq_some_iff] at hk
     obtain ⟨x, hx, hk⟩ := hk
     obtain ⟨h1, hk⟩ := yG hk
     exact ⟨x.2, by simp only [OrK.orc, ho, hx, Option.bind_some, h1, cond_true], hk⟩
    | none =>
     rw [ho] at hk
     obtain ⟨x, M, hx, hk⟩ := runFK_some N g qs K' r' hk
     have e : ok.orc.a g = none := by simp only [OrK.orc, ho, Option.bind_none]
     exact ⟨x, by simp only [e, hx, Option.bind_some], hk⟩
   obtain ⟨q, h1, h2⟩ := qXK (K0 := fun q => K q.1) (K' := endK T [] fi.results) hc fi.body (fun e σ hk => by
    simp only [Option.bind_eq_some_iff] at hk
    exact hk) _ h
   refine ⟨q.1, q.2, ?_, h2⟩
   simp only [runF, hfi, hb, cond_true]
   exact h1
theorem runK_some {T : Tab} {ok : OrK} {N f : Nat} {ps : List PV} {r : Ret} (h : runK T ok N f ps = some (r, [])) : run T ok.orc N f ps = some r := by
 obtain ⟨x, M, h1, h2⟩ := runFK_some N f ps _ _ h
 cases h2
 unfold run
 rw [h1]
 rfl
def OrK.Ok (P : Program) (ok : OrK) : Prop := ∀ g o, ok g = some o → ∀ ps r, o ps = some (true, r) → SndA1 P g ps r
theorem OrK.Ok.orc {P : Program} {ok : OrK} (h : ok.Ok P) : OrcOk P ok.orc := by
 refine ⟨fun g o ho ps r hr => ?_, fun g o ho => by simp [OrK.orc] at ho⟩
 simp only [OrK.orc, Option.bind_eq_some_iff, Option.some.injEq] at ho
 obtain ⟨f, hf, rfl⟩ := ho
 simp only [Option.bind_eq_some_iff] at hr
 obtain ⟨x, hx, hr⟩ := hr
 obtain ⟨h1, hr⟩ := yG hr
 cases hr
 exact h g f hf ps x.2 (by rw [hx, ← h1])
theorem uW {P : Program} {T : Tab} {ok : OrK} {N f : Nat} {ps : List PV} {r : Ret} (hT : TabOk P T) (hm : P.follows .mixedOrders = true) (hO : ok.Ok P) (h : runK T ok N f ps = some (r, [])) : SndA1 P f ps r := run_sound hT hm hO.orc (runK_some h)
abbrev OrL := List (Nat × (List PV → Option (Bool × Ret)))
def OrL.k (l : OrL) : OrK := asc l
def OneOk (P : Program) (f : Nat) (o : List PV → Option (Bool × Ret)) : Prop := ∀ ps r, o ps = some (true, r) → SndA1 P f ps r
theorem OrL.ok {P : Program} {l : OrL} (h : AllP (fun x : Nat × (List PV → Option (Bool × Ret)) => OneOk P x.1 x.2) l) : (OrL.k l).Ok P := fun g o ho ps r hr => h.of (qVZ ho) ps r hr
def listed (l : List (List PV × Ret)) : List PV → Option (Bool × Ret) := fun ps => (findK l ps).bind fun r => some (true, r)
def PV.val1 : PV → Value
 | .n k x => .int k x
 | .b x => .bool x
 | .s x => .string x
 | _ => .nilIface
def PV.val : PV → Value
 | .a cs => .agg (cs.map PV.val1).toArray
 | x => x.val1
theorem val1_eq {F : Nat → Prop} {w : World} {p : PV} {v : Value} (hp : p.flat1 = true) (h : RP F w p v) : v = p.val1 := by
 cases h <;> first | rfl | (simp [PV.flat1] at hp; done)
theorem val1_rp {F : Nat → Prop} {w : World} {p : PV} (hp : p.flat1 = true) : RP F w p p.val1 ∧ p.val1.oneCell' = true := by
 cases p <;> first | (simp [PV.flat1] at hp; done) | exact ⟨by constructor, rfl⟩
theorem val_eq {F : Nat → Prop} {w : World} {p : PV} {v : Value} (hp : p.flat2 = true) (h : RP F w p v) : v = p.val := by
 cases p with
 | a cs =>
  cases h with
  | a _ vs hl h1 h =>
   have e : vs = cs.map PV.val1 := List.ext_getElem? fun i => by
    rw [List.getElem?_map]
    cases hc : cs[i]? with
    | none => rw [Option.map_none, List.getElem?_eq_none (by have := List.getElem?_eq_none_iff.1 hc; omega)]
    | some c =>
     have hi := (List.getElem?_eq_some_iff.1 hc).1
     have hv : vs[i]? = some (vs[i]'(by omega)) := List.getElem?_eq_getElem (by omega)
     rw [hv, Option.map_some, val1_eq (List.all_eq_true.1 hp c (List.mem_of_getElem? hc)) (h i c _ hc hv)]
   rw [e]; rfl
 | _ => exact val1_eq (by first | exact hp | (simp [PV.flat2, PV.flat1] at hp)) h
theorem val_rp {F : Nat → Prop} {w : World} {p : PV} (hp : p.flat2 = true) : RP F w p p.val := by
 cases p with
 | a cs =>
  refine .a cs (cs.map PV.val1) (by simp) (fun v hv => ?_) fun i p v hi hv => ?_
  ·obtain ⟨c, hc, rfl⟩ := List.mem_map.1 hv
   exact (val1_rp (F := F) (w := w) (List.all_eq_true.1 hp c hc)).2
  ·rw [List.getElem?_map, hi] at hv
   cases hv
   exact (val1_rp (List.all_eq_true.1 hp p (List.mem_of_getElem? hi))).1
 | _ => exact (val1_rp (by first | exact hp | (simp [PV.flat2, PV.flat1] at hp))).1
theorem qQY {P : Program} {f : Nat} {ps : List PV} {x : PV} (hent : jU P f) (hp : ps.all PV.flat2 = true) (hx : x.flat2 = true) (h : ∀ w, Calls P f (ps.map PV.val).toArray w (Rets x.val w)) : SndA1 P f ps (.v x) := by
 refine ⟨hent, fun w F vals hF hal => ?_⟩
 have e : vals = ps.map PV.val := List.ext_getElem? fun i => by
  rw [List.getElem?_map]
  have hl := hal.1
  cases hc : ps[i]? with
  | none => rw [Option.map_none, List.getElem?_eq_none (by have := List.getElem?_eq_none_iff.1 hc; omega)]
  | some c =>
   have hi := (List.getElem?_eq_some_iff.1 hc).1
   have hv : vals[i]? = some (vals[i]'(by omega)) := List.getElem?_eq_getElem (by omega)
   rw [hv, Option.map_some, val_eq (List.all_eq_true.1 hp c (List.mem_of_getElem? hc)) (hal.2 i c _ hc hv)]
 rw [e]
 exact (h w).mono fun e w' ⟨he, hg⟩ => ⟨x.val, F, he, hg, fun k hk => hk, fun k hk => .inl hk, val_rp hx⟩
theorem rets_of_snd {P : Program} {f : Nat} {ps : List PV} {x : PV} (h : SndA1 P f ps (.v x)) (hp : ps.all PV.flat2 = true) (hx : x.flat2 = true) (w : World) : Calls P f (ps.map PV.val).toArray w (Rets x.val w) := by
 refine Calls.mono (h.2 w (fun _ => False) (ps.map PV.val) (fun k hk => hk.elim) ⟨by simp, fun i p v hi hv => ?_⟩) fun e w' ⟨v, F', he, hg, _, _, hr⟩ => ⟨by rw [he, val_eq hx hr], hg⟩
 rw [List.getElem?_map, hi] at hv
 cases hv
 exact val_rp (List.all_eq_true.1 hp p (List.mem_of_getElem? hi))
end Go.Rx
namespace Go.Sx
def dn (x : Int) : Nat → Int
 | 0 => 1073741824
 | 1 => x * 6746518852 / 65536
 | k + 2 => dn x (k + 1) * (x * 6746518852 / 65536) / 1073741824
def up (x : Int) : Nat → Int
 | 0 => 1073741824
 | 1 => ceilI (x * 6746518853) 65536
 | k + 2 => ceilI (up x (k + 1) * ceilI (x * 6746518853) 65536) 1073741824
def pwV (z : Int) (f : Nat → Int) : Value := .agg #[.int .i64 z, .int .i64 (f 1), .int .i64 (f 2), .int .i64 (f 3), .int .i64 (f 4), .int .i64 (f 5), .int .i64 (f 6), .int .i64 (f 7), .int .i64 (f 8), .int .i64 (f 9), .int .i64 (f 10)]
def powV (x : Int) : Value := .tuple #[pwV 1073741824 (dn x), pwV 1073741824 (up x)]
def powR (x : Int) : Value := .tuple #[pwV 0 (dn x), pwV 0 (up x)]
theorem qUQ {m t r : Int} (h : r = m * t / 1073741824) (hm : 0 ≤ m ∧ m ≤ 1073741824) (ht : 0 ≤ t ∧ t ≤ 1073741824) : 0 ≤ r ∧ r ≤ 1073741824 := by
 subst h
 have h1 : 0 ≤ m * t := Int.mul_nonneg hm.1 ht.1
 have h2 : m * t ≤ 1073741824 * 1073741824 := Int.mul_le_mul hm.2 ht.2 ht.1 (by decide)
 omega
theorem ceil_spec {a b : Int} (hb : 0 < b) : a ≤ ceilI a b * b ∧ ceilI a b * b < a + b := by
 unfold ceilI
 have h1 := Int.ediv_mul_le (-a) (Int.ne_of_gt hb)
 have h2 := Int.lt_ediv_add_one_mul_self (-a) hb
 rw [Int.add_mul] at h2
 rw [Int.neg_mul]
 omega
theorem qKH {m t r : Int} (h : r = ceilI (m * t) 1073741824) (hm : 0 ≤ m ∧ m ≤ 1073741824) (ht : 0 ≤ t ∧ t ≤ 1073741824) : 0 ≤ r ∧ r ≤ 1073741824 := by
 subst h
 have h1 : 0 ≤ m * t := Int.mul_nonneg hm.1 ht.1
 have h2 : m * t ≤ 1073741824 * 1073741824 := Int.mul_le_mul hm.2 ht.2 ht.1 (by decide)
 have h3 := ceil_spec (a := m * t) (b := 1073741824) (by decide)
 omega
theorem up1_bnd {x r : Int} (h : r = ceilI (x * 6746518853) 65536) (hx : 0 ≤ x ∧ x ≤ 8192) : 0 ≤ r ∧ r ≤ 1073741824 := by
 have h3 := ceil_spec (a := x * 6746518853) (b := 65536) (by decide)
 omega
theorem qYK {x : Int} (hx : 0 ≤ x ∧ x ≤ 8192) : ∀ k, 0 ≤ dn x k ∧ dn x k ≤ 1073741824
 | 0 => by simp [dn]
 | 1 => by simp only [dn]; omega
 | k + 2 => qUQ rfl (qYK hx (k + 1)) (by omega)
theorem qZQ {x : Int} (hx : 0 ≤ x ∧ x ≤ 8192) : ∀ k, 0 ≤ up x k ∧ up x k ≤ 1073741824
 | 0 => by simp [up]
 | 1 => up1_bnd rfl hx
 | k + 2 => qKH rfl (qZQ hx (k + 1)) (up1_bnd rfl hx)
def encI (low high : Int) : Iv := ⟨max 0 (low / 16384), min 65536 (ceilI high 16384)⟩
def sinL (x : Int) : Int := dn x 1 - ceilI (up x 3) 6 + dn x 5 / 120 - ceilI (up x 7) 5040
def sinU (x : Int) : Int := up x 1 - dn x 3 / 6 + ceilI (up x 5) 120 - dn x 7 / 5040 + ceilI (up x 9) 362880
def cosL (x : Int) : Int := 1073741824 - ceilI (up x 2) 2 + dn x 4 / 24 - ceilI (up x 6) 720 + dn x 8 / 40320 - ceilI (up x 10) 3628800
def cosU (x : Int) : Int := 1073741824 - dn x 2 / 2 + ceilI (up x 4) 24 - dn x 6 / 720 + ceilI (up x 8) 40320
def sineI (x : Int) : Iv := encI (sinL x) (sinU x)
def cosineI (x : Int) : Iv := encI (cosL x) (cosU x)
def qJH (r : Int) : Iv := bif decide (r ≤ 8192) then sineI r else cosineI (16384 - r)
def sinM (m : Int) : Iv := bif decide (m / 16384 = 0) then qJH (m % 16384) else bif decide (m / 16384 = 1) then qJH (16384 - m % 16384)
 else bif decide (m / 16384 = 2) then Iv.neg (qJH (m % 16384)) else Iv.neg (qJH (16384 - m % 16384))
def sinI (a : Int) : Iv := sinM (a % 65536)
def cosI (a : Int) : Iv := sinI (a % 65536 + 16384)
def zYW (a : Iv) (c : Int) : Bool := decide (a.lo + (c - a.lo) % 65536 ≤ a.hi)
def overI (a : Iv) (low high : Iv) (top bottom : Int) : Iv :=
 bif !a.valid then ⟨0, 0⟩ else bif decide (65536 ≤ a.hi - a.lo) then ⟨-65536, 65536⟩ else
  let x := Iv.hull low high
  let y := bif zYW a top then Iv.hull x (Iv.of 65536) else x
  bif zYW a bottom then Iv.hull y (Iv.of (-65536)) else y
def qKQ (a : Iv) : Iv := overI a (sinI a.lo) (sinI a.hi) 16384 49152
def qKK (a : Iv) : Iv := overI a (cosI a.lo) (cosI a.hi) 0 32768
theorem ceiling_eq {a b : Int} (ha : 0 ≤ a) (hb : 0 < b) : (a + b - 1) / b = ceilI a b := by
 refine (ceil_iff hb ?_ ?_).symm
 ·have := Int.lt_ediv_add_one_mul_self (a + b - 1) hb
  rw [Int.add_mul] at this
  omega
 ·have := Int.ediv_mul_le (a + b - 1) (Int.ne_of_gt hb)
  omega
theorem ceil_nonneg {a b : Int} (ha : 0 ≤ a) (hb : 0 < b) : 0 ≤ ceilI a b ∧ ceilI a b ≤ a := by
 have h := ceil_spec (a := a) hb
 constructor
 ·rcases Int.lt_or_le (ceilI a b) 0 with h1 | h1
  ·have : ceilI a b * b ≤ -1 * b := Int.mul_le_mul_of_nonneg_right (by omega) (Int.le_of_lt hb)
   omega
  ·exact h1
 ·rcases Int.lt_or_le a (ceilI a b) with h1 | h1
  ·have : (a + 1) * b ≤ ceilI a b * b := Int.mul_le_mul_of_nonneg_right (by omega) (Int.le_of_lt hb)
   rw [Int.add_mul] at this
   have h3 : a * 1 ≤ a * b := Int.mul_le_mul_of_nonneg_left (by omega) ha
   omega
  ·exact h1
theorem div_bnd {a b : Int} (ha : 0 ≤ a) (hb : 0 < b) : 0 ≤ a / b ∧ a / b ≤ a := ⟨Int.ediv_nonneg ha (Int.le_of_lt hb), Int.ediv_le_self b ha⟩
theorem kV {r a b : Int} (h : r = ceilI a b) (ha : 0 ≤ a ∧ a ≤ 1073741824) (hb : 0 < b) : 0 ≤ r ∧ r ≤ 1073741824 := by
 have := ceil_nonneg ha.1 hb
 omega
theorem div_bnd_of {r a b : Int} (h : r = a / b) (ha : 0 ≤ a ∧ a ≤ 1073741824) (hb : 0 < b) : 0 ≤ r ∧ r ≤ 1073741824 := by
 have := div_bnd ha.1 hb
 omega
theorem ceil_quo {a b : Int} (ha : 0 ≤ a ∧ a ≤ 1073741824) (hb : 0 < b ∧ b ≤ 1073741824) : IntKind.i64.wrap ((a + b - 1).tdiv b) = ceilI a b := by
 rw [qJG (by omega) (by omega), ceiling_eq ha.1 hb.1]
 exact zW (by have := ceil_nonneg ha.1 hb.1; omega)
theorem qQX {a b : Int} (ha : 0 ≤ a ∧ a ≤ 1073741824) (hb : 0 ≤ b ∧ b ≤ 1073741824) : In64 (a * b) := by
 have := zQQ (a := a) (b := b) (by omega) (by omega)
 unfold In64; omega
theorem round_neg {n k : Int} (hk : 0 < k) (h : n.tmod k < 0) : n.tmod k + k = n % k := by
 have e := Int.tdiv_mul_add_tmod n k
 have f := floor_neg hk h
 have g := Int.mul_ediv_add_emod n k
 rw [← f, Int.mul_comm, Int.sub_mul] at g
 omega
theorem round_pos {n k : Int} (hk : 0 < k) (h : ¬ n.tmod k < 0) : n.tmod k = n % k := by
 have e := Int.tdiv_mul_add_tmod n k
 have f := floor_pos hk h
 have g := Int.mul_ediv_add_emod n k
 rw [← f, Int.mul_comm] at g
 omega
end Go.Sx

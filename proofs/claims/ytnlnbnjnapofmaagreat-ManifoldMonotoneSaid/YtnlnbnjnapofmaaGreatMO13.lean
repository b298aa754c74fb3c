/- Part 13 of the texts behind the last one: rules and contracts. No condition. -/
import Derived.Test.YtnlnbnjnapofmaaGreatMO12
namespace Go.Proofs.YtnlnbnjnapofmaaGreat.Ov
open Go.Rx Rt Go.Sx Go.RowKit
open Od
noncomputable def gEq (a b : PV) : Bool := @decide (a = b) (Classical.propDecidable _)
theorem kU (a : PV) : gEq a a = true := @decide_eq_true _ (Classical.propDecidable _) rfl
theorem gEq_eq {a b : PV} (h : gEq a b = true) : a = b := @of_decide_eq_true _ (Classical.propDecidable _) h
noncomputable def o_chk (R : PV) : List PV → Option (Bool × Ret) := fun ps => match ps with
  | [rb] => some (gEq rb R, .v (.n .i64 0))
  | _ => none
theorem ok_chk {R : PV} (h : SndA1 Tryz.prog 67 [R] (.v (.n .i64 0))) : OneOk Tryz.prog 67 (o_chk R) := by
  intro ps r hh
  unfold o_chk at hh
  split at hh
  · simp only [Option.some.injEq, Prod.mk.injEq] at hh
    obtain ⟨hg, rfl⟩ := hh
    obtain rfl := gEq_eq hg
    exact h
  · cases hh
noncomputable def dotV (nx ny nz : Int) (v : V3) : Int × Int := dot nx ny nz v.x.lo v.x.hi v.y.lo v.y.hi v.z.lo v.z.hi
def vecP (kind : Int) (p : Po) (px py pz : Int) : V3 := bif decide (kind = 1) then M3.apply p.r (V3.of ⟨px, py, pz⟩) else Po.app p (V3.of ⟨px, py, pz⟩)
def bxOk (j : J) (b : Iv) : Prop := -2147483648 ≤ b.lo ∧ b.lo ≤ b.hi ∧ b.hi ≤ 2147483648 ∧ -2147483648 ≤ j.lo ∧ j.lo ≤ j.hi ∧ j.hi ≤ 2147483648 ∧ j.lo ≤ b.lo ∧ b.hi ≤ j.hi
def rob1 (j0 : J) (mr : List (List PV)) : PV := .a [.l [jp j0], .l mr]
def box1 (b0 : Iv) : PV := .l [ivC b0]
def lk1 (p0 : Po) : PV := .l [poC p0]
set_option maxRecDepth 100000 in
theorem tr_ins1 (j0 : J) (mr : List (List PV)) (b0 : Iv) : runK T (OrL.k [(67, o_chk (rob1 j0 mr))]) 60 41 [(rob1 j0 mr), (box1 b0)] =
  bif (gEq (rob1 j0 mr) (rob1 j0 mr)) then (bif (decide ((-2147483648) ≤ b0.lo)) then (bif (decide (b0.lo ≤ b0.hi)) then (bif (decide (b0.hi ≤ 2147483648)) then (bif (decide ((-2147483648) ≤ j0.lo)) then (bif (decide (j0.lo ≤ j0.hi)) then (bif (decide (j0.hi ≤ 2147483648)) then (bif (decide (j0.lo ≤ b0.lo)) then (bif (decide (b0.hi ≤ j0.hi)) then some (.v (.b true), [])
                  else some (.v (.b false), []))
                else some (.v (.b false), []))
              else some (.v (.b false), []))
            else some (.v (.b false), []))
          else some (.v (.b false), []))
        else some (.v (.b false), []))
      else some (.v (.b false), []))
    else some (.v (.b false), []))
  else none := by kernel_rfl
theorem sp_ins1 {j0 : J} {mr : List (List PV)} {b0 : Iv} (h0 : bxOk j0 b0) : runK T (OrL.k [(67, o_chk (rob1 j0 mr))]) 60 41 [(rob1 j0 mr), (box1 b0)] = some (.v (.b true), []) := by
  obtain ⟨q00, q01, q02, q03, q04, q05, q06, q07⟩ := h0
  rw [tr_ins1, kU, cond_true, show (decide ((-2147483648) ≤ b0.lo)) = true from decide_eq_true (by omega), cond_true, show (decide (b0.lo ≤ b0.hi)) = true from decide_eq_true (by omega), cond_true, show (decide (b0.hi ≤ 2147483648)) = true from decide_eq_true (by omega), cond_true, show (decide ((-2147483648) ≤ j0.lo)) = true from decide_eq_true (by omega), cond_true, show (decide (j0.lo ≤ j0.hi)) = true from decide_eq_true (by omega), cond_true, show (decide (j0.hi ≤ 2147483648)) = true from decide_eq_true (by omega), cond_true, show (decide (j0.lo ≤ b0.lo)) = true from decide_eq_true (by omega), cond_true, show (decide (b0.hi ≤ j0.hi)) = true from decide_eq_true (by omega), cond_true]
theorem snd_ins1 {j0 : J} {mr : List (List PV)} {b0 : Iv} (h0 : bxOk j0 b0) (hc : SndA1 Tryz.prog 67 [(rob1 j0 mr)] (.v (.n .i64 0))) : SndA1 Tryz.prog 41 [(rob1 j0 mr), (box1 b0)] (.v (.b true)) := kY tabOk mixed (OrL.ok (l := [(67, o_chk (rob1 j0 mr))]) ⟨ok_chk hc, trivial⟩) (sp_ins1 h0)
def F_b : Bool → Option (Ret × Mem) := fun v => some (.v (.b v), [])
def rob2 (j0 j1 : J) (mr : List (List PV)) : PV := .a [.l [jp j0, jp j1], .l mr]
def box2 (b0 b1 : Iv) : PV := .l [ivC b0, ivC b1]
def lk2 (p0 p1 : Po) : PV := .l [poC p0, poC p1]
set_option maxRecDepth 100000 in
theorem tr_ins2 (j0 j1 : J) (mr : List (List PV)) (b0 b1 : Iv) : runK T (OrL.k [(67, o_chk (rob2 j0 j1 mr))]) 60 41 [(rob2 j0 j1 mr), (box2 b0 b1)] =
  bif (gEq (rob2 j0 j1 mr) (rob2 j0 j1 mr)) then (bif (decide ((-2147483648) ≤ b0.lo)) then (bif (decide (b0.lo ≤ b0.hi)) then (bif (decide (b0.hi ≤ 2147483648)) then (bif (decide ((-2147483648) ≤ j0.lo)) then (bif (decide (j0.lo ≤ j0.hi)) then (bif (decide (j0.hi ≤ 2147483648)) then (bif (decide (j0.lo ≤ b0.lo)) then (bif (decide (b0.hi ≤ j0.hi)) then (bif (decide ((-2147483648) ≤ b1.lo)) then (bif (decide (b1.lo ≤ b1.hi)) then (bif (decide (b1.hi ≤ 2147483648)) then (bif (decide ((-2147483648) ≤ j1.lo)) then (bif (decide (j1.lo ≤ j1.hi)) then (bif (decide (j1.hi ≤ 2147483648)) then (bif (decide (j1.lo ≤ b1.lo)) then (bif (decide (b1.hi ≤ j1.hi)) then some (.v (.b true), [])
                                  else some (.v (.b false), []))
                                else some (.v (.b false), []))
                              else some (.v (.b false), []))
                            else some (.v (.b false), []))
                          else some (.v (.b false), []))
                        else some (.v (.b false), []))
                      else some (.v (.b false), []))
                    else some (.v (.b false), []))
                  else some (.v (.b false), []))
                else some (.v (.b false), []))
              else some (.v (.b false), []))
            else some (.v (.b false), []))
          else some (.v (.b false), []))
        else some (.v (.b false), []))
      else some (.v (.b false), []))
    else some (.v (.b false), []))
  else none := by kernel_rfl
theorem sp_ins2 {j0 j1 : J} {mr : List (List PV)} {b0 b1 : Iv} (h0 : bxOk j0 b0) (h1 : bxOk j1 b1) : runK T (OrL.k [(67, o_chk (rob2 j0 j1 mr))]) 60 41 [(rob2 j0 j1 mr), (box2 b0 b1)] = some (.v (.b true), []) := by
  obtain ⟨q00, q01, q02, q03, q04, q05, q06, q07⟩ := h0
  obtain ⟨q10, q11, q12, q13, q14, q15, q16, q17⟩ := h1
  rw [tr_ins2, kU, cond_true, show (decide ((-2147483648) ≤ b0.lo)) = true from decide_eq_true (by omega), cond_true, show (decide (b0.lo ≤ b0.hi)) = true from decide_eq_true (by omega), cond_true, show (decide (b0.hi ≤ 2147483648)) = true from decide_eq_true (by omega), cond_true, show (decide ((-2147483648) ≤ j0.lo)) = true from decide_eq_true (by omega), cond_true, show (decide (j0.lo ≤ j0.hi)) = true from decide_eq_true (by omega), cond_true, show (decide (j0.hi ≤ 2147483648)) = true from decide_eq_true (by omega), cond_true, show (decide (j0.lo ≤ b0.lo)) = true from decide_eq_true (by omega), cond_true, show (decide (b0.hi ≤ j0.hi)) = true from decide_eq_true (by omega), cond_true, show (decide ((-2147483648) ≤ b1.lo)) = true from decide_eq_true (by omega), cond_true, show (decide (b1.lo ≤ b1.hi)) = true from decide_eq_true (by omega), cond_true, show (decide (b1.hi ≤ 2147483648)) = true from decide_eq_true (by omega), cond_true, show (decide ((-2147483648) ≤ j1.lo)) = true from decide_eq_true (by omega), cond_true, show (decide (j1.lo ≤ j1.hi)) = true from decide_eq_true (by omega), cond_true, show (decide (j1.hi ≤ 2147483648)) = true from decide_eq_true (by omega), cond_true, show (decide (j1.lo ≤ b1.lo)) = true from decide_eq_true (by omega), cond_true, show (decide (b1.hi ≤ j1.hi)) = true from decide_eq_true (by omega), cond_true]
theorem snd_ins2 {j0 j1 : J} {mr : List (List PV)} {b0 b1 : Iv} (h0 : bxOk j0 b0) (h1 : bxOk j1 b1) (hc : SndA1 Tryz.prog 67 [(rob2 j0 j1 mr)] (.v (.n .i64 0))) : SndA1 Tryz.prog 41 [(rob2 j0 j1 mr), (box2 b0 b1)] (.v (.b true)) := kY tabOk mixed (OrL.ok (l := [(67, o_chk (rob2 j0 j1 mr))]) ⟨ok_chk hc, trivial⟩) (sp_ins2 h0 h1)
def rob3 (j0 j1 j2 : J) (mr : List (List PV)) : PV := .a [.l [jp j0, jp j1, jp j2], .l mr]
def box3 (b0 b1 b2 : Iv) : PV := .l [ivC b0, ivC b1, ivC b2]
def lk3 (p0 p1 p2 : Po) : PV := .l [poC p0, poC p1, poC p2]
set_option maxRecDepth 100000 in
theorem tr_ins3 (j0 j1 j2 : J) (mr : List (List PV)) (b0 b1 b2 : Iv) : runK T (OrL.k [(67, o_chk (rob3 j0 j1 j2 mr))]) 60 41 [(rob3 j0 j1 j2 mr), (box3 b0 b1 b2)] =
  bif (gEq (rob3 j0 j1 j2 mr) (rob3 j0 j1 j2 mr)) then (bif (decide ((-2147483648) ≤ b0.lo)) then (bif (decide (b0.lo ≤ b0.hi)) then (bif (decide (b0.hi ≤ 2147483648)) then (bif (decide ((-2147483648) ≤ j0.lo)) then (bif (decide (j0.lo ≤ j0.hi)) then (bif (decide (j0.hi ≤ 2147483648)) then (bif (decide (j0.lo ≤ b0.lo)) then (bif (decide (b0.hi ≤ j0.hi)) then (bif (decide ((-2147483648) ≤ b1.lo)) then (bif (decide (b1.lo ≤ b1.hi)) then (bif (decide (b1.hi ≤ 2147483648)) then (bif (decide ((-2147483648) ≤ j1.lo)) then (bif (decide (j1.lo ≤ j1.hi)) then (bif (decide (j1.hi ≤ 2147483648)) then (bif (decide (j1.lo ≤ b1.lo)) then (bif (decide (b1.hi ≤ j1.hi)) then (bif (decide ((-2147483648) ≤ b2.lo)) then (bif (decide (b2.lo ≤ b2.hi)) then (bif (decide (b2.hi ≤ 2147483648)) then (bif (decide ((-2147483648) ≤ j2.lo)) then (bif (decide (j2.lo ≤ j2.hi)) then (bif (decide (j2.hi ≤ 2147483648)) then (bif (decide (j2.lo ≤ b2.lo)) then (bif (decide (b2.hi ≤ j2.hi)) then some (.v (.b true), [])
                                                  else some (.v (.b false), []))
                                                else some (.v (.b false), []))
                                              else some (.v (.b false), []))
                                            else some (.v (.b false), []))
                                          else some (.v (.b false), []))
                                        else some (.v (.b false), []))
                                      else some (.v (.b false), []))
                                    else some (.v (.b false), []))
                                  else some (.v (.b false), []))
                                else some (.v (.b false), []))
                              else some (.v (.b false), []))
                            else some (.v (.b false), []))
                          else some (.v (.b false), []))
                        else some (.v (.b false), []))
                      else some (.v (.b false), []))
                    else some (.v (.b false), []))
                  else some (.v (.b false), []))
                else some (.v (.b false), []))
              else some (.v (.b false), []))
            else some (.v (.b false), []))
          else some (.v (.b false), []))
        else some (.v (.b false), []))
      else some (.v (.b false), []))
    else some (.v (.b false), []))
  else none := by kernel_rfl
theorem sp_ins3 {j0 j1 j2 : J} {mr : List (List PV)} {b0 b1 b2 : Iv} (h0 : bxOk j0 b0) (h1 : bxOk j1 b1) (h2 : bxOk j2 b2) : runK T (OrL.k [(67, o_chk (rob3 j0 j1 j2 mr))]) 60 41 [(rob3 j0 j1 j2 mr), (box3 b0 b1 b2)] = some (.v (.b true), []) := by
  obtain ⟨q00, q01, q02, q03, q04, q05, q06, q07⟩ := h0
  obtain ⟨q10, q11, q12, q13, q14, q15, q16, q17⟩ := h1
  obtain ⟨q20, q21, q22, q23, q24, q25, q26, q27⟩ := h2
  rw [tr_ins3, kU, cond_true, show (decide ((-2147483648) ≤ b0.lo)) = true from decide_eq_true (by omega), cond_true, show (decide (b0.lo ≤ b0.hi)) = true from decide_eq_true (by omega), cond_true, show (decide (b0.hi ≤ 2147483648)) = true from decide_eq_true (by omega), cond_true, show (decide ((-2147483648) ≤ j0.lo)) = true from decide_eq_true (by omega), cond_true, show (decide (j0.lo ≤ j0.hi)) = true from decide_eq_true (by omega), cond_true, show (decide (j0.hi ≤ 2147483648)) = true from decide_eq_true (by omega), cond_true, show (decide (j0.lo ≤ b0.lo)) = true from decide_eq_true (by omega), cond_true, show (decide (b0.hi ≤ j0.hi)) = true from decide_eq_true (by omega), cond_true, show (decide ((-2147483648) ≤ b1.lo)) = true from decide_eq_true (by omega), cond_true, show (decide (b1.lo ≤ b1.hi)) = true from decide_eq_true (by omega), cond_true, show (decide (b1.hi ≤ 2147483648)) = true from decide_eq_true (by omega), cond_true, show (decide ((-2147483648) ≤ j1.lo)) = true from decide_eq_true (by omega), cond_true, show (decide (j1.lo ≤ j1.hi)) = true from decide_eq_true (by omega), cond_true, show (decide (j1.hi ≤ 2147483648)) = true from decide_eq_true (by omega), cond_true, show (decide (j1.lo ≤ b1.lo)) = true from decide_eq_true (by omega), cond_true, show (decide (b1.hi ≤ j1.hi)) = true from decide_eq_true (by omega), cond_true, show (decide ((-2147483648) ≤ b2.lo)) = true from decide_eq_true (by omega), cond_true, show (decide (b2.lo ≤ b2.hi)) = true from decide_eq_true (by omega), cond_true, show (decide (b2.hi ≤ 2147483648)) = true from decide_eq_true (by omega), cond_true, show (decide ((-2147483648) ≤ j2.lo)) = true from decide_eq_true (by omega), cond_true, show (decide (j2.lo ≤ j2.hi)) = true from decide_eq_true (by omega), cond_true, show (decide (j2.hi ≤ 2147483648)) = true from decide_eq_true (by omega), cond_true, show (decide (j2.lo ≤ b2.lo)) = true from decide_eq_true (by omega), cond_true, show (decide (b2.hi ≤ j2.hi)) = true from decide_eq_true (by omega), cond_true]
theorem snd_ins3 {j0 j1 j2 : J} {mr : List (List PV)} {b0 b1 b2 : Iv} (h0 : bxOk j0 b0) (h1 : bxOk j1 b1) (h2 : bxOk j2 b2) (hc : SndA1 Tryz.prog 67 [(rob3 j0 j1 j2 mr)] (.v (.n .i64 0))) : SndA1 Tryz.prog 41 [(rob3 j0 j1 j2 mr), (box3 b0 b1 b2)] (.v (.b true)) := kY tabOk mixed (OrL.ok (l := [(67, o_chk (rob3 j0 j1 j2 mr))]) ⟨ok_chk hc, trivial⟩) (sp_ins3 h0 h1 h2)
end Go.Proofs.YtnlnbnjnapofmaaGreat.Ov
namespace Go.Proofs.YtnlnbnjnapofmaaGreat.Ow
open Go.Rx Rt Go.Sx Go.RowKit
open Ov
theorem l1 {α : Type} {l : List α} (h : l.length = 1) : ∃ a, l = [a] := by match l, h with | [a], _ => exact ⟨a, rfl⟩
theorem l2 {α : Type} {l : List α} (h : l.length = 2) : ∃ a b, l = [a, b] := by match l, h with | [a, b], _ => exact ⟨a, b, rfl⟩
theorem l3 {α : Type} {l : List α} (h : l.length = 3) : ∃ a b c, l = [a, b, c] := by match l, h with | [a, b, c], _ => exact ⟨a, b, c, rfl⟩
theorem bxs_ok {l : List Int} {js : List J} (hj : ∀ j ∈ js, JB j) : ∀ n, n ≤ js.length → ∀ (k : Nat) (j : J) (b : Iv), js[k]? = some j → (bxs l js n).1[k]? = some b → bxOk j b
  | 0, _, k, j, b, _, h => by simp [bxs] at h
  | n + 1, hn, k, j, b, hk, h => by
    have hjn : js[n]? = some (js[n]'(by omega)) := List.getElem?_eq_getElem (by omega)
    generalize js[n]'(by omega) = jn at hjn
    simp only [bxs, hjn] at h
    have hl := bxs_length (l := l) (js := js) n (by omega)
    by_cases hkn : k < n
    · rw [List.getElem?_append_left (by omega)] at h
      exact bxs_ok hj n (by omega) k j b hk h
    · rw [List.getElem?_append_right (by omega), hl] at h
      have h0 : k - n = 0 := by
        have := (List.getElem?_eq_some_iff.1 h).1
        simp at this; omega
      obtain rfl : k = n := by omega
      rw [h0] at h
      rw [hjn] at hk
      cases hk
      simp only [List.getElem?_cons_zero, Option.some.injEq] at h
      subst h
      obtain ⟨b1, b2, b3⟩ := hj j (List.mem_of_getElem? hjn)
      have r := uJ l (bxs l js k).2 (k := j.hi - j.lo + 1) (by omega)
      have hx : 0 ≤ (bxW l ((bxs l js k).2 + 1) (j.hi - j.lo)).1 := by
        have a1 := uJ l ((bxs l js k).2 + 1 + 1) (k := 3000) (by decide)
        have a2 := uJ l ((bxs l js k).2 + 1 + 1) (k := 200) (by decide)
        unfold bxW
        repeat' split
        all_goals (dsimp only; omega)
      unfold bxOk bxLo
      dsimp only
      omega
end Go.Proofs.YtnlnbnjnapofmaaGreat.Ow
namespace Go.Proofs.YtnlnbnjnapofmaaGreat.Mw
open Go.Rx Rt Go.Sx Go.RowKit
open Od Ov Ow
noncomputable def g1 (l : List PV) : Bool := gEq (.t l) (.t l)
theorem g1_t (l : List PV) : g1 l = true := kU _
noncomputable def g2 (l : List PV) (b1 b2 b : PV) : Bool := gEq (.t l) (.t l) && (gEq b b1 || gEq b b2)
theorem g2_1 (l : List PV) (b1 b2 : PV) : g2 l b1 b2 b1 = true := by unfold g2; rw [kU, kU]; rfl
theorem g2_2 (l : List PV) (b1 b2 : PV) : g2 l b1 b2 b2 = true := by unfold g2; rw [kU, kU, Bool.or_true]; rfl
noncomputable def o_cr (as_ : List PV) (r : Ret) : List PV → Option (Bool × Ret) := fun ps => some (gEq (.t ps) (.t as_), r)
theorem ok_cr {f : Nat} {as_ : List PV} {r : Ret} (h : SndA1 Tryz.prog f as_ r) : OneOk Tryz.prog f (o_cr as_ r) := by
  intro ps q hh
  unfold o_cr at hh
  simp only [Option.some.injEq, Prod.mk.injEq] at hh
  obtain ⟨hg, rfl⟩ := hh
  have := gEq_eq hg
  simp only [PV.t.injEq] at this
  rw [this]
  exact h
theorem snd_consO {l m : List Int} {n : Nat} (hn : n ≤ 1000) (hm : m.length ≤ 9223372036854775807) : SndA1 Tryz.prog 11 [robP l, .n .i64 n, intsP m] (.ow 31 10 ((consOf l m n).map cp)) := by
  have hl : ((consOf l m n).map cp).length = n := by rw [List.length_map]; exact cnsOf_len _ _ _ _
  refine snd_toldOw (e := 31) (sz := 10) (rows := (consOf l m n).map cp) (Φ := fun x => n ≤ x.2) (yW Tryz.func11 (by kernel_rfl) (by kernel_rfl)) (flat_map (fun _ => rfl) _) (by decide) (fun w F vals hF hal => ?_)
  obtain ⟨v1, vs, rfl, h1, hal⟩ := al_uncons hal
  obtain ⟨v2, vs, rfl, h2, hal⟩ := al_uncons hal
  obtain ⟨v3, vs, rfl, h3, hal⟩ := al_uncons hal
  obtain rfl := al_unnil hal
  obtain ⟨aj, cj, am, cm, rfl, hj, hm'⟩ := rob_open hF h1
  obtain rfl : v2 = .int .i64 (n : Int) := by cases h2; rfl
  have hb := nJ_b l 0
  rw [hl, valRows_map (g := cnc) (fun _ => rfl)]
  exact mkConsO v3 m aj am cj (nJ l 0) (nM l 0) cm n hn (by omega) w (ints_of_rp hm hF h3)
def widen (c : Cn) : Cn := { c with lo := IntKind.i64.wrap (c.lo - 16777216), hi := IntKind.i64.wrap (c.hi + 16777216) }
set_option maxRecDepth 100000 in
theorem tr_wide1 (R1 R2 M : List (List PV)) (c0 : Cn) : runK T (OrL.k [(11, o_cr [.a [.l R1, .l R2], .n .i64 1, .l M] (.ow 31 10 [cp c0]))]) 60 15 [.a [.l R1, .l R2], .n .i64 1, .l M] =
  bif (g1 [.a [.l R1, .l R2], .n .i64 1, .l M]) then some (.ow 31 10 [cp (widen c0)], []) else none := by kernel_rfl
set_option maxRecDepth 100000 in
theorem tr_wide2 (R1 R2 M : List (List PV)) (c0 c1 : Cn) : runK T (OrL.k [(11, o_cr [.a [.l R1, .l R2], .n .i64 2, .l M] (.ow 31 10 [cp c0, cp c1]))]) 60 15 [.a [.l R1, .l R2], .n .i64 2, .l M] =
  bif (g1 [.a [.l R1, .l R2], .n .i64 2, .l M]) then some (.ow 31 10 [cp (widen c0), cp (widen c1)], []) else none := by kernel_rfl
set_option maxRecDepth 100000 in
theorem tr_wide3 (R1 R2 M : List (List PV)) (c0 c1 c2 : Cn) : runK T (OrL.k [(11, o_cr [.a [.l R1, .l R2], .n .i64 3, .l M] (.ow 31 10 [cp c0, cp c1, cp c2]))]) 60 15 [.a [.l R1, .l R2], .n .i64 3, .l M] =
  bif (g1 [.a [.l R1, .l R2], .n .i64 3, .l M]) then some (.ow 31 10 [cp (widen c0), cp (widen c1), cp (widen c2)], []) else none := by kernel_rfl
theorem snd_wide {l m : List Int} {k : Nat} (hk : 1 ≤ k ∧ k ≤ 3) (hm : m.length ≤ 9223372036854775807) : SndA1 Tryz.prog 15 [robP l, .n .i64 k, intsP m] (.ow 31 10 (((consOf l m k).map widen).map cp)) := by
  have hc := snd_consO (l := l) (n := k) (by omega) hm
  have hlen : (consOf l m k).length = k := cnsOf_len _ _ _ _
  rcases (by omega : k = 1 ∨ k = 2 ∨ k = 3) with rfl | rfl | rfl
  · obtain ⟨c0, e⟩ := l1 hlen
    rw [e] at hc ⊢
    refine kY (N := 60) tabOk mixed (OrL.ok (l := [(11, o_cr [robP l, .n .i64 1, intsP m] (.ow 31 10 [cp c0]))]) ⟨ok_cr hc, trivial⟩) ?_
    refine (tr_wide1 _ _ _ c0).trans ?_
    rw [g1_t]
    rfl
  · obtain ⟨c0, c1, e⟩ := l2 hlen
    rw [e] at hc ⊢
    refine kY (N := 60) tabOk mixed (OrL.ok (l := [(11, o_cr [robP l, .n .i64 2, intsP m] (.ow 31 10 [cp c0, cp c1]))]) ⟨ok_cr hc, trivial⟩) ?_
    refine (tr_wide2 _ _ _ c0 c1).trans ?_
    rw [g1_t]
    rfl
  · obtain ⟨c0, c1, c2, e⟩ := l3 hlen
    rw [e] at hc ⊢
    refine kY (N := 60) tabOk mixed (OrL.ok (l := [(11, o_cr [robP l, .n .i64 3, intsP m] (.ow 31 10 [cp c0, cp c1, cp c2]))]) ⟨ok_cr hc, trivial⟩) ?_
    refine (tr_wide3 _ _ _ c0 c1 c2).trans ?_
    rw [g1_t]
    rfl
def chT (n : Int) {α : Type} (c0 : Cn) (y z : α) : α := (bif (!decide (c0.kind = 0)) then (bif (!decide (c0.kind = 1)) then z else (bif (decide (c0.link < 0)) then z else (bif (decide (n ≤ c0.link)) then z else (bif (decide (c0.p.x < (-4194304))) then z else (bif (decide (4194304 < c0.p.x)) then z else (bif (decide (c0.p.y < (-4194304))) then z else (bif (decide (4194304 < c0.p.y)) then z else (bif (decide (c0.p.z < (-4194304))) then z else (bif (decide (4194304 < c0.p.z)) then z else (bif (decide (c0.n.x < (-16384))) then z else (bif (decide (16384 < c0.n.x)) then z else (bif (decide (c0.n.y < (-16384))) then z else (bif (decide (16384 < c0.n.y)) then z else (bif (decide (c0.n.z < (-16384))) then z else (bif (decide (16384 < c0.n.z)) then z else (bif (!((decide (c0.n.x = 0)) && ((decide (c0.n.y = 0)) && ((decide (c0.n.z = 0)) && true)))) then (bif (decide (c0.hi < c0.lo)) then z else (bif (decide (c0.lo < (-70368744177664))) then z else (bif (decide (70368744177664 < c0.hi)) then z else y))) else z)))))))))))))))) else (bif (decide (c0.link < 0)) then z else (bif (decide (n ≤ c0.link)) then z else (bif (decide (c0.p.x < (-4194304))) then z else (bif (decide (4194304 < c0.p.x)) then z else (bif (decide (c0.p.y < (-4194304))) then z else (bif (decide (4194304 < c0.p.y)) then z else (bif (decide (c0.p.z < (-4194304))) then z else (bif (decide (4194304 < c0.p.z)) then z else (bif (decide (c0.n.x < (-16384))) then z else (bif (decide (16384 < c0.n.x)) then z else (bif (decide (c0.n.y < (-16384))) then z else (bif (decide (16384 < c0.n.y)) then z else (bif (decide (c0.n.z < (-16384))) then z else (bif (decide (16384 < c0.n.z)) then z else (bif (!((decide (c0.n.x = 0)) && ((decide (c0.n.y = 0)) && ((decide (c0.n.z = 0)) && true)))) then (bif (decide (c0.hi < c0.lo)) then z else (bif (decide (c0.lo < (-70368744177664))) then z else (bif (decide (70368744177664 < c0.hi)) then z else y))) else z))))))))))))))))
theorem chT_f {α β : Type} (f : α → β) (n : Int) (c : Cn) (y z : α) : chT n c (f y) (f z) = f (chT n c y z) := by
  unfold chT
  simp only [Bool.apply_cond f]
theorem chT_b {α : Type} (n : Int) (c : Cn) (y z : α) : chT n c y z = bif chT n c true false then y else z := by
  have := chT_f (fun b : Bool => bif b then y else z) n c true false
  simpa only [cond_true, cond_false] using this
theorem chT_link {n : Int} {c : Cn} (h : chT n c true false = true) : 0 ≤ c.link ∧ c.link < n := by
  apply Classical.byContradiction
  intro hn
  have : chT n c true false = false := by
    unfold chT
    rcases (by omega : c.link < 0 ∨ (¬ c.link < 0 ∧ n ≤ c.link)) with h | ⟨h0, h⟩
    · simp only [decide_eq_true h, cond_true, Bool.cond_self]
    · simp only [decide_eq_false h0, decide_eq_true h, cond_true, cond_false, Bool.cond_self]
  rw [this] at h
  cases h
def chA (n : Int) : List Cn → Bool
  | [] => true
  | c :: cs => chT n c (chA n cs) false
theorem chA_link {n : Int} : ∀ {cs : List Cn}, chA n cs = true → ∀ c ∈ cs, 0 ≤ c.link ∧ c.link < n
  | [], _, c, h => by cases h
  | d :: cs, h, c, hm => by
    have h' : chT n d (chA n cs) false = true := h
    rw [chT_b] at h'
    cases hd : chT n d true false with
    | false => rw [hd] at h'; cases h'
    | true =>
      rw [hd] at h'
      rcases List.mem_cons.1 hm with rfl | hm
      · exact chT_link hd
      · exact chA_link h' c hm
set_option maxRecDepth 100000 in
theorem snd_conk1_1 {j0 : J} {mr : List (List PV)} (hc : SndA1 Tryz.prog 67 [(rob1 j0 mr)] (.v (.n .i64 0))) (c0 : Cn) : SndA1 Tryz.prog 40 [(rob1 j0 mr), .l [cp c0]] (.v (.b (chA 1 [c0]))) := by
  refine kY (N := 60) tabOk mixed (OrL.ok (l := [(67, o_chk (rob1 j0 mr))]) ⟨ok_chk hc, trivial⟩) ?_
  refine (by kernel_rfl : _ = bif gEq (rob1 j0 mr) (rob1 j0 mr) then (chT 1 c0 (F_b true) (F_b false)) else none).trans ?_
  simp only [chT_f, kU, cond_true]
  rfl
set_option maxRecDepth 100000 in
theorem snd_conk1_2 {j0 : J} {mr : List (List PV)} (hc : SndA1 Tryz.prog 67 [(rob1 j0 mr)] (.v (.n .i64 0))) (c0 c1 : Cn) : SndA1 Tryz.prog 40 [(rob1 j0 mr), .l [cp c0, cp c1]] (.v (.b (chA 1 [c0, c1]))) := by
  refine kY (N := 60) tabOk mixed (OrL.ok (l := [(67, o_chk (rob1 j0 mr))]) ⟨ok_chk hc, trivial⟩) ?_
  refine (by kernel_rfl : _ = bif gEq (rob1 j0 mr) (rob1 j0 mr) then (chT 1 c0 (chT 1 c1 (F_b true) (F_b false)) (F_b false)) else none).trans ?_
  simp only [chT_f, kU, cond_true]
  rfl
set_option maxRecDepth 100000 in
theorem snd_conk1_3 {j0 : J} {mr : List (List PV)} (hc : SndA1 Tryz.prog 67 [(rob1 j0 mr)] (.v (.n .i64 0))) (c0 c1 c2 : Cn) : SndA1 Tryz.prog 40 [(rob1 j0 mr), .l [cp c0, cp c1, cp c2]] (.v (.b (chA 1 [c0, c1, c2]))) := by
  refine kY (N := 60) tabOk mixed (OrL.ok (l := [(67, o_chk (rob1 j0 mr))]) ⟨ok_chk hc, trivial⟩) ?_
  refine (by kernel_rfl : _ = bif gEq (rob1 j0 mr) (rob1 j0 mr) then (chT 1 c0 (chT 1 c1 (chT 1 c2 (F_b true) (F_b false)) (F_b false)) (F_b false)) else none).trans ?_
  simp only [chT_f, kU, cond_true]
  rfl
set_option maxRecDepth 100000 in
theorem snd_conk2_1 {j0 j1 : J} {mr : List (List PV)} (hc : SndA1 Tryz.prog 67 [(rob2 j0 j1 mr)] (.v (.n .i64 0))) (c0 : Cn) : SndA1 Tryz.prog 40 [(rob2 j0 j1 mr), .l [cp c0]] (.v (.b (chA 2 [c0]))) := by
  refine kY (N := 60) tabOk mixed (OrL.ok (l := [(67, o_chk (rob2 j0 j1 mr))]) ⟨ok_chk hc, trivial⟩) ?_
  refine (by kernel_rfl : _ = bif gEq (rob2 j0 j1 mr) (rob2 j0 j1 mr) then (chT 2 c0 (F_b true) (F_b false)) else none).trans ?_
  simp only [chT_f, kU, cond_true]
  rfl
set_option maxRecDepth 100000 in
theorem snd_conk2_2 {j0 j1 : J} {mr : List (List PV)} (hc : SndA1 Tryz.prog 67 [(rob2 j0 j1 mr)] (.v (.n .i64 0))) (c0 c1 : Cn) : SndA1 Tryz.prog 40 [(rob2 j0 j1 mr), .l [cp c0, cp c1]] (.v (.b (chA 2 [c0, c1]))) := by
  refine kY (N := 60) tabOk mixed (OrL.ok (l := [(67, o_chk (rob2 j0 j1 mr))]) ⟨ok_chk hc, trivial⟩) ?_
  refine (by kernel_rfl : _ = bif gEq (rob2 j0 j1 mr) (rob2 j0 j1 mr) then (chT 2 c0 (chT 2 c1 (F_b true) (F_b false)) (F_b false)) else none).trans ?_
  simp only [chT_f, kU, cond_true]
  rfl
set_option maxRecDepth 100000 in
theorem snd_conk2_3 {j0 j1 : J} {mr : List (List PV)} (hc : SndA1 Tryz.prog 67 [(rob2 j0 j1 mr)] (.v (.n .i64 0))) (c0 c1 c2 : Cn) : SndA1 Tryz.prog 40 [(rob2 j0 j1 mr), .l [cp c0, cp c1, cp c2]] (.v (.b (chA 2 [c0, c1, c2]))) := by
  refine kY (N := 60) tabOk mixed (OrL.ok (l := [(67, o_chk (rob2 j0 j1 mr))]) ⟨ok_chk hc, trivial⟩) ?_
  refine (by kernel_rfl : _ = bif gEq (rob2 j0 j1 mr) (rob2 j0 j1 mr) then (chT 2 c0 (chT 2 c1 (chT 2 c2 (F_b true) (F_b false)) (F_b false)) (F_b false)) else none).trans ?_
  simp only [chT_f, kU, cond_true]
  rfl
set_option maxRecDepth 100000 in
theorem snd_conk3_1 {j0 j1 j2 : J} {mr : List (List PV)} (hc : SndA1 Tryz.prog 67 [(rob3 j0 j1 j2 mr)] (.v (.n .i64 0))) (c0 : Cn) : SndA1 Tryz.prog 40 [(rob3 j0 j1 j2 mr), .l [cp c0]] (.v (.b (chA 3 [c0]))) := by
  refine kY (N := 60) tabOk mixed (OrL.ok (l := [(67, o_chk (rob3 j0 j1 j2 mr))]) ⟨ok_chk hc, trivial⟩) ?_
  refine (by kernel_rfl : _ = bif gEq (rob3 j0 j1 j2 mr) (rob3 j0 j1 j2 mr) then (chT 3 c0 (F_b true) (F_b false)) else none).trans ?_
  simp only [chT_f, kU, cond_true]
  rfl
set_option maxRecDepth 100000 in
theorem snd_conk3_2 {j0 j1 j2 : J} {mr : List (List PV)} (hc : SndA1 Tryz.prog 67 [(rob3 j0 j1 j2 mr)] (.v (.n .i64 0))) (c0 c1 : Cn) : SndA1 Tryz.prog 40 [(rob3 j0 j1 j2 mr), .l [cp c0, cp c1]] (.v (.b (chA 3 [c0, c1]))) := by
  refine kY (N := 60) tabOk mixed (OrL.ok (l := [(67, o_chk (rob3 j0 j1 j2 mr))]) ⟨ok_chk hc, trivial⟩) ?_
  refine (by kernel_rfl : _ = bif gEq (rob3 j0 j1 j2 mr) (rob3 j0 j1 j2 mr) then (chT 3 c0 (chT 3 c1 (F_b true) (F_b false)) (F_b false)) else none).trans ?_
  simp only [chT_f, kU, cond_true]
  rfl
set_option maxRecDepth 100000 in
theorem snd_conk3_3 {j0 j1 j2 : J} {mr : List (List PV)} (hc : SndA1 Tryz.prog 67 [(rob3 j0 j1 j2 mr)] (.v (.n .i64 0))) (c0 c1 c2 : Cn) : SndA1 Tryz.prog 40 [(rob3 j0 j1 j2 mr), .l [cp c0, cp c1, cp c2]] (.v (.b (chA 3 [c0, c1, c2]))) := by
  refine kY (N := 60) tabOk mixed (OrL.ok (l := [(67, o_chk (rob3 j0 j1 j2 mr))]) ⟨ok_chk hc, trivial⟩) ?_
  refine (by kernel_rfl : _ = bif gEq (rob3 j0 j1 j2 mr) (rob3 j0 j1 j2 mr) then (chT 3 c0 (chT 3 c1 (chT 3 c2 (F_b true) (F_b false)) (F_b false)) (F_b false)) else none).trans ?_
  simp only [chT_f, kU, cond_true]
  rfl
end Go.Proofs.YtnlnbnjnapofmaaGreat.Mw
namespace Go.Proofs.YtnlnbnjnapofmaaGreat.Mv
open Go.Rx Rt Go.Sx Go.RowKit
open Od Ov Ow Mw
noncomputable def rng (c : Cn) (p : Po) : Int × Int := dotV c.n.x c.n.y c.n.z (vecP c.kind p c.p.x c.p.y c.p.z)
noncomputable def rngP (v : Int × Int) : List PV := [.n .i64 v.1, .n .i64 v.2]
noncomputable def byK {α : Type} (c : Cn) (p : Po) (f : Int × Int → α) : α := bif decide (c.kind = 1) then f (dotV c.n.x c.n.y c.n.z (M3.apply p.r (V3.of ⟨c.p.x, c.p.y, c.p.z⟩))) else f (dotV c.n.x c.n.y c.n.z (Po.app p (V3.of ⟨c.p.x, c.p.y, c.p.z⟩)))
theorem uK {α : Type} (c : Cn) (p : Po) (f : Int × Int → α) : byK c p f = f (rng c p) := by
  unfold byK rng vecP
  cases decide (c.kind = 1) <;> rfl
def cpL (c : Cn) (k : Int) : List PV := [.n .i64 c.kind, .n .i64 k, .n .i64 c.p.x, .n .i64 c.p.y, .n .i64 c.p.z, .n .i64 c.n.x, .n .i64 c.n.y, .n .i64 c.n.z, .n .i64 c.lo, .n .i64 c.hi]
theorem jZ {c : Cn} {k : Int} (h : c.link = k) : cp c = cpL c k := by unfold cp cpL; rw [h]
noncomputable def oV (R1 R2 B : List (List PV)) (K : PV) : OrL := (73, o_cr [.a [.l R1, .l R2], .l B] (.v K)) :: Od.L6
theorem kX {R1 R2 B : List (List PV)} {K : PV} {r0 r1 out : List (List PV)} {Y : Option (Ret × Mem)} (hl : SndA1 Tryz.prog 73 [.a [.l R1, .l R2], .l B] (.v K)) (er : r0 = r1)
    (ht : runK T (OrL.k (oV R1 R2 B K)) 60 42 [.a [.l R1, .l R2], .l r1, .l B] = bif gEq (.t [.a [.l R1, .l R2], .l B]) (.t [.a [.l R1, .l R2], .l B]) then Y else none) (hx : Y = some (.ow 37 2 out, [])) : SndA1 Tryz.prog 42 [.a [.l R1, .l R2], .l r0, .l B] (.ow 37 2 out) := by
  subst er
  refine kY (N := 60) tabOk mixed (OrL.ok (l := oV R1 R2 B K) ⟨ok_cr hl, Od.L6_ok⟩) ?_
  rw [ht, kU, cond_true]
  exact hx
set_option maxRecDepth 100000 in
theorem snd_vals1_0 {R1 R2 B : List (List PV)} {p0 : Po} (hl : SndA1 Tryz.prog 73 [.a [.l R1, .l R2], .l B] (.v (lk1 p0))) (c0 : Cn) (h0 : c0.link = 0) : SndA1 Tryz.prog 42 [.a [.l R1, .l R2], .l [cp c0], .l B] (.ow 37 2 [rngP (rng c0 p0)]) :=
  kX (r1 := [cpL c0 0]) (Y := byK c0 p0 fun v0 => some (.ow 37 2 [rngP v0], [])) hl (by rw [jZ h0]) (by kernel_rfl) (by simp only [uK])
set_option maxRecDepth 100000 in
theorem snd_vals1_00 {R1 R2 B : List (List PV)} {p0 : Po} (hl : SndA1 Tryz.prog 73 [.a [.l R1, .l R2], .l B] (.v (lk1 p0))) (c0 c1 : Cn) (h0 : c0.link = 0) (h1 : c1.link = 0) : SndA1 Tryz.prog 42 [.a [.l R1, .l R2], .l [cp c0, cp c1], .l B] (.ow 37 2 [rngP (rng c0 p0), rngP (rng c1 p0)]) :=
  kX (r1 := [cpL c0 0, cpL c1 0]) (Y := byK c0 p0 fun v0 => byK c1 p0 fun v1 => some (.ow 37 2 [rngP v0, rngP v1], [])) hl (by rw [jZ h0, jZ h1]) (by kernel_rfl) (by simp only [uK])
set_option maxRecDepth 100000 in
theorem snd_vals1_000 {R1 R2 B : List (List PV)} {p0 : Po} (hl : SndA1 Tryz.prog 73 [.a [.l R1, .l R2], .l B] (.v (lk1 p0))) (c0 c1 c2 : Cn) (h0 : c0.link = 0) (h1 : c1.link = 0) (h2 : c2.link = 0) : SndA1 Tryz.prog 42 [.a [.l R1, .l R2], .l [cp c0, cp c1, cp c2], .l B] (.ow 37 2 [rngP (rng c0 p0), rngP (rng c1 p0), rngP (rng c2 p0)]) :=
  kX (r1 := [cpL c0 0, cpL c1 0, cpL c2 0]) (Y := byK c0 p0 fun v0 => byK c1 p0 fun v1 => byK c2 p0 fun v2 => some (.ow 37 2 [rngP v0, rngP v1, rngP v2], [])) hl (by rw [jZ h0, jZ h1, jZ h2]) (by kernel_rfl) (by simp only [uK])
set_option maxRecDepth 100000 in
theorem snd_vals2_0 {R1 R2 B : List (List PV)} {p0 p1 : Po} (hl : SndA1 Tryz.prog 73 [.a [.l R1, .l R2], .l B] (.v (lk2 p0 p1))) (c0 : Cn) (h0 : c0.link = 0) : SndA1 Tryz.prog 42 [.a [.l R1, .l R2], .l [cp c0], .l B] (.ow 37 2 [rngP (rng c0 p0)]) :=
  kX (r1 := [cpL c0 0]) (Y := byK c0 p0 fun v0 => some (.ow 37 2 [rngP v0], [])) hl (by rw [jZ h0]) (by kernel_rfl) (by simp only [uK])
set_option maxRecDepth 100000 in
theorem snd_vals2_1 {R1 R2 B : List (List PV)} {p0 p1 : Po} (hl : SndA1 Tryz.prog 73 [.a [.l R1, .l R2], .l B] (.v (lk2 p0 p1))) (c0 : Cn) (h0 : c0.link = 1) : SndA1 Tryz.prog 42 [.a [.l R1, .l R2], .l [cp c0], .l B] (.ow 37 2 [rngP (rng c0 p1)]) :=
  kX (r1 := [cpL c0 1]) (Y := byK c0 p1 fun v0 => some (.ow 37 2 [rngP v0], [])) hl (by rw [jZ h0]) (by kernel_rfl) (by simp only [uK])
set_option maxRecDepth 100000 in
theorem snd_vals2_00 {R1 R2 B : List (List PV)} {p0 p1 : Po} (hl : SndA1 Tryz.prog 73 [.a [.l R1, .l R2], .l B] (.v (lk2 p0 p1))) (c0 c1 : Cn) (h0 : c0.link = 0) (h1 : c1.link = 0) : SndA1 Tryz.prog 42 [.a [.l R1, .l R2], .l [cp c0, cp c1], .l B] (.ow 37 2 [rngP (rng c0 p0), rngP (rng c1 p0)]) :=
  kX (r1 := [cpL c0 0, cpL c1 0]) (Y := byK c0 p0 fun v0 => byK c1 p0 fun v1 => some (.ow 37 2 [rngP v0, rngP v1], [])) hl (by rw [jZ h0, jZ h1]) (by kernel_rfl) (by simp only [uK])
set_option maxRecDepth 100000 in
theorem snd_vals2_01 {R1 R2 B : List (List PV)} {p0 p1 : Po} (hl : SndA1 Tryz.prog 73 [.a [.l R1, .l R2], .l B] (.v (lk2 p0 p1))) (c0 c1 : Cn) (h0 : c0.link = 0) (h1 : c1.link = 1) : SndA1 Tryz.prog 42 [.a [.l R1, .l R2], .l [cp c0, cp c1], .l B] (.ow 37 2 [rngP (rng c0 p0), rngP (rng c1 p1)]) :=
  kX (r1 := [cpL c0 0, cpL c1 1]) (Y := byK c0 p0 fun v0 => byK c1 p1 fun v1 => some (.ow 37 2 [rngP v0, rngP v1], [])) hl (by rw [jZ h0, jZ h1]) (by kernel_rfl) (by simp only [uK])
set_option maxRecDepth 100000 in
theorem snd_vals2_10 {R1 R2 B : List (List PV)} {p0 p1 : Po} (hl : SndA1 Tryz.prog 73 [.a [.l R1, .l R2], .l B] (.v (lk2 p0 p1))) (c0 c1 : Cn) (h0 : c0.link = 1) (h1 : c1.link = 0) : SndA1 Tryz.prog 42 [.a [.l R1, .l R2], .l [cp c0, cp c1], .l B] (.ow 37 2 [rngP (rng c0 p1), rngP (rng c1 p0)]) :=
  kX (r1 := [cpL c0 1, cpL c1 0]) (Y := byK c0 p1 fun v0 => byK c1 p0 fun v1 => some (.ow 37 2 [rngP v0, rngP v1], [])) hl (by rw [jZ h0, jZ h1]) (by kernel_rfl) (by simp only [uK])
set_option maxRecDepth 100000 in
theorem snd_vals2_11 {R1 R2 B : List (List PV)} {p0 p1 : Po} (hl : SndA1 Tryz.prog 73 [.a [.l R1, .l R2], .l B] (.v (lk2 p0 p1))) (c0 c1 : Cn) (h0 : c0.link = 1) (h1 : c1.link = 1) : SndA1 Tryz.prog 42 [.a [.l R1, .l R2], .l [cp c0, cp c1], .l B] (.ow 37 2 [rngP (rng c0 p1), rngP (rng c1 p1)]) :=
  kX (r1 := [cpL c0 1, cpL c1 1]) (Y := byK c0 p1 fun v0 => byK c1 p1 fun v1 => some (.ow 37 2 [rngP v0, rngP v1], [])) hl (by rw [jZ h0, jZ h1]) (by kernel_rfl) (by simp only [uK])
set_option maxRecDepth 100000 in
theorem snd_vals2_000 {R1 R2 B : List (List PV)} {p0 p1 : Po} (hl : SndA1 Tryz.prog 73 [.a [.l R1, .l R2], .l B] (.v (lk2 p0 p1))) (c0 c1 c2 : Cn) (h0 : c0.link = 0) (h1 : c1.link = 0) (h2 : c2.link = 0) : SndA1 Tryz.prog 42 [.a [.l R1, .l R2], .l [cp c0, cp c1, cp c2], .l B] (.ow 37 2 [rngP (rng c0 p0), rngP (rng c1 p0), rngP (rng c2 p0)]) :=
  kX (r1 := [cpL c0 0, cpL c1 0, cpL c2 0]) (Y := byK c0 p0 fun v0 => byK c1 p0 fun v1 => byK c2 p0 fun v2 => some (.ow 37 2 [rngP v0, rngP v1, rngP v2], [])) hl (by rw [jZ h0, jZ h1, jZ h2]) (by kernel_rfl) (by simp only [uK])
set_option maxRecDepth 100000 in
theorem snd_vals2_001 {R1 R2 B : List (List PV)} {p0 p1 : Po} (hl : SndA1 Tryz.prog 73 [.a [.l R1, .l R2], .l B] (.v (lk2 p0 p1))) (c0 c1 c2 : Cn) (h0 : c0.link = 0) (h1 : c1.link = 0) (h2 : c2.link = 1) : SndA1 Tryz.prog 42 [.a [.l R1, .l R2], .l [cp c0, cp c1, cp c2], .l B] (.ow 37 2 [rngP (rng c0 p0), rngP (rng c1 p0), rngP (rng c2 p1)]) :=
  kX (r1 := [cpL c0 0, cpL c1 0, cpL c2 1]) (Y := byK c0 p0 fun v0 => byK c1 p0 fun v1 => byK c2 p1 fun v2 => some (.ow 37 2 [rngP v0, rngP v1, rngP v2], [])) hl (by rw [jZ h0, jZ h1, jZ h2]) (by kernel_rfl) (by simp only [uK])
set_option maxRecDepth 100000 in
theorem snd_vals2_010 {R1 R2 B : List (List PV)} {p0 p1 : Po} (hl : SndA1 Tryz.prog 73 [.a [.l R1, .l R2], .l B] (.v (lk2 p0 p1))) (c0 c1 c2 : Cn) (h0 : c0.link = 0) (h1 : c1.link = 1) (h2 : c2.link = 0) : SndA1 Tryz.prog 42 [.a [.l R1, .l R2], .l [cp c0, cp c1, cp c2], .l B] (.ow 37 2 [rngP (rng c0 p0), rngP (rng c1 p1), rngP (rng c2 p0)]) :=
  kX (r1 := [cpL c0 0, cpL c1 1, cpL c2 0]) (Y := byK c0 p0 fun v0 => byK c1 p1 fun v1 => byK c2 p0 fun v2 => some (.ow 37 2 [rngP v0, rngP v1, rngP v2], [])) hl (by rw [jZ h0, jZ h1, jZ h2]) (by kernel_rfl) (by simp only [uK])
set_option maxRecDepth 100000 in
theorem snd_vals2_011 {R1 R2 B : List (List PV)} {p0 p1 : Po} (hl : SndA1 Tryz.prog 73 [.a [.l R1, .l R2], .l B] (.v (lk2 p0 p1))) (c0 c1 c2 : Cn) (h0 : c0.link = 0) (h1 : c1.link = 1) (h2 : c2.link = 1) : SndA1 Tryz.prog 42 [.a [.l R1, .l R2], .l [cp c0, cp c1, cp c2], .l B] (.ow 37 2 [rngP (rng c0 p0), rngP (rng c1 p1), rngP (rng c2 p1)]) :=
  kX (r1 := [cpL c0 0, cpL c1 1, cpL c2 1]) (Y := byK c0 p0 fun v0 => byK c1 p1 fun v1 => byK c2 p1 fun v2 => some (.ow 37 2 [rngP v0, rngP v1, rngP v2], [])) hl (by rw [jZ h0, jZ h1, jZ h2]) (by kernel_rfl) (by simp only [uK])
set_option maxRecDepth 100000 in
theorem snd_vals2_100 {R1 R2 B : List (List PV)} {p0 p1 : Po} (hl : SndA1 Tryz.prog 73 [.a [.l R1, .l R2], .l B] (.v (lk2 p0 p1))) (c0 c1 c2 : Cn) (h0 : c0.link = 1) (h1 : c1.link = 0) (h2 : c2.link = 0) : SndA1 Tryz.prog 42 [.a [.l R1, .l R2], .l [cp c0, cp c1, cp c2], .l B] (.ow 37 2 [rngP (rng c0 p1), rngP (rng c1 p0), rngP (rng c2 p0)]) :=
  kX (r1 := [cpL c0 1, cpL c1 0, cpL c2 0]) (Y := byK c0 p1 fun v0 => byK c1 p0 fun v1 => byK c2 p0 fun v2 => some (.ow 37 2 [rngP v0, rngP v1, rngP v2], [])) hl (by rw [jZ h0, jZ h1, jZ h2]) (by kernel_rfl) (by simp only [uK])
set_option maxRecDepth 100000 in
theorem snd_vals2_101 {R1 R2 B : List (List PV)} {p0 p1 : Po} (hl : SndA1 Tryz.prog 73 [.a [.l R1, .l R2], .l B] (.v (lk2 p0 p1))) (c0 c1 c2 : Cn) (h0 : c0.link = 1) (h1 : c1.link = 0) (h2 : c2.link = 1) : SndA1 Tryz.prog 42 [.a [.l R1, .l R2], .l [cp c0, cp c1, cp c2], .l B] (.ow 37 2 [rngP (rng c0 p1), rngP (rng c1 p0), rngP (rng c2 p1)]) :=
  kX (r1 := [cpL c0 1, cpL c1 0, cpL c2 1]) (Y := byK c0 p1 fun v0 => byK c1 p0 fun v1 => byK c2 p1 fun v2 => some (.ow 37 2 [rngP v0, rngP v1, rngP v2], [])) hl (by rw [jZ h0, jZ h1, jZ h2]) (by kernel_rfl) (by simp only [uK])
set_option maxRecDepth 100000 in
theorem snd_vals2_110 {R1 R2 B : List (List PV)} {p0 p1 : Po} (hl : SndA1 Tryz.prog 73 [.a [.l R1, .l R2], .l B] (.v (lk2 p0 p1))) (c0 c1 c2 : Cn) (h0 : c0.link = 1) (h1 : c1.link = 1) (h2 : c2.link = 0) : SndA1 Tryz.prog 42 [.a [.l R1, .l R2], .l [cp c0, cp c1, cp c2], .l B] (.ow 37 2 [rngP (rng c0 p1), rngP (rng c1 p1), rngP (rng c2 p0)]) :=
  kX (r1 := [cpL c0 1, cpL c1 1, cpL c2 0]) (Y := byK c0 p1 fun v0 => byK c1 p1 fun v1 => byK c2 p0 fun v2 => some (.ow 37 2 [rngP v0, rngP v1, rngP v2], [])) hl (by rw [jZ h0, jZ h1, jZ h2]) (by kernel_rfl) (by simp only [uK])
set_option maxRecDepth 100000 in
theorem snd_vals2_111 {R1 R2 B : List (List PV)} {p0 p1 : Po} (hl : SndA1 Tryz.prog 73 [.a [.l R1, .l R2], .l B] (.v (lk2 p0 p1))) (c0 c1 c2 : Cn) (h0 : c0.link = 1) (h1 : c1.link = 1) (h2 : c2.link = 1) : SndA1 Tryz.prog 42 [.a [.l R1, .l R2], .l [cp c0, cp c1, cp c2], .l B] (.ow 37 2 [rngP (rng c0 p1), rngP (rng c1 p1), rngP (rng c2 p1)]) :=
  kX (r1 := [cpL c0 1, cpL c1 1, cpL c2 1]) (Y := byK c0 p1 fun v0 => byK c1 p1 fun v1 => byK c2 p1 fun v2 => some (.ow 37 2 [rngP v0, rngP v1, rngP v2], [])) hl (by rw [jZ h0, jZ h1, jZ h2]) (by kernel_rfl) (by simp only [uK])
set_option maxRecDepth 100000 in
theorem snd_vals3_0 {R1 R2 B : List (List PV)} {p0 p1 p2 : Po} (hl : SndA1 Tryz.prog 73 [.a [.l R1, .l R2], .l B] (.v (lk3 p0 p1 p2))) (c0 : Cn) (h0 : c0.link = 0) : SndA1 Tryz.prog 42 [.a [.l R1, .l R2], .l [cp c0], .l B] (.ow 37 2 [rngP (rng c0 p0)]) :=
  kX (r1 := [cpL c0 0]) (Y := byK c0 p0 fun v0 => some (.ow 37 2 [rngP v0], [])) hl (by rw [jZ h0]) (by kernel_rfl) (by simp only [uK])
set_option maxRecDepth 100000 in
theorem snd_vals3_1 {R1 R2 B : List (List PV)} {p0 p1 p2 : Po} (hl : SndA1 Tryz.prog 73 [.a [.l R1, .l R2], .l B] (.v (lk3 p0 p1 p2))) (c0 : Cn) (h0 : c0.link = 1) : SndA1 Tryz.prog 42 [.a [.l R1, .l R2], .l [cp c0], .l B] (.ow 37 2 [rngP (rng c0 p1)]) :=
  kX (r1 := [cpL c0 1]) (Y := byK c0 p1 fun v0 => some (.ow 37 2 [rngP v0], [])) hl (by rw [jZ h0]) (by kernel_rfl) (by simp only [uK])
set_option maxRecDepth 100000 in
theorem snd_vals3_2 {R1 R2 B : List (List PV)} {p0 p1 p2 : Po} (hl : SndA1 Tryz.prog 73 [.a [.l R1, .l R2], .l B] (.v (lk3 p0 p1 p2))) (c0 : Cn) (h0 : c0.link = 2) : SndA1 Tryz.prog 42 [.a [.l R1, .l R2], .l [cp c0], .l B] (.ow 37 2 [rngP (rng c0 p2)]) :=
  kX (r1 := [cpL c0 2]) (Y := byK c0 p2 fun v0 => some (.ow 37 2 [rngP v0], [])) hl (by rw [jZ h0]) (by kernel_rfl) (by simp only [uK])
set_option maxRecDepth 100000 in
theorem snd_vals3_00 {R1 R2 B : List (List PV)} {p0 p1 p2 : Po} (hl : SndA1 Tryz.prog 73 [.a [.l R1, .l R2], .l B] (.v (lk3 p0 p1 p2))) (c0 c1 : Cn) (h0 : c0.link = 0) (h1 : c1.link = 0) : SndA1 Tryz.prog 42 [.a [.l R1, .l R2], .l [cp c0, cp c1], .l B] (.ow 37 2 [rngP (rng c0 p0), rngP (rng c1 p0)]) :=
  kX (r1 := [cpL c0 0, cpL c1 0]) (Y := byK c0 p0 fun v0 => byK c1 p0 fun v1 => some (.ow 37 2 [rngP v0, rngP v1], [])) hl (by rw [jZ h0, jZ h1]) (by kernel_rfl) (by simp only [uK])
set_option maxRecDepth 100000 in
theorem snd_vals3_01 {R1 R2 B : List (List PV)} {p0 p1 p2 : Po} (hl : SndA1 Tryz.prog 73 [.a [.l R1, .l R2], .l B] (.v (lk3 p0 p1 p2))) (c0 c1 : Cn) (h0 : c0.link = 0) (h1 : c1.link = 1) : SndA1 Tryz.prog 42 [.a [.l R1, .l R2], .l [cp c0, cp c1], .l B] (.ow 37 2 [rngP (rng c0 p0), rngP (rng c1 p1)]) :=
  kX (r1 := [cpL c0 0, cpL c1 1]) (Y := byK c0 p0 fun v0 => byK c1 p1 fun v1 => some (.ow 37 2 [rngP v0, rngP v1], [])) hl (by rw [jZ h0, jZ h1]) (by kernel_rfl) (by simp only [uK])
set_option maxRecDepth 100000 in
theorem snd_vals3_02 {R1 R2 B : List (List PV)} {p0 p1 p2 : Po} (hl : SndA1 Tryz.prog 73 [.a [.l R1, .l R2], .l B] (.v (lk3 p0 p1 p2))) (c0 c1 : Cn) (h0 : c0.link = 0) (h1 : c1.link = 2) : SndA1 Tryz.prog 42 [.a [.l R1, .l R2], .l [cp c0, cp c1], .l B] (.ow 37 2 [rngP (rng c0 p0), rngP (rng c1 p2)]) :=
  kX (r1 := [cpL c0 0, cpL c1 2]) (Y := byK c0 p0 fun v0 => byK c1 p2 fun v1 => some (.ow 37 2 [rngP v0, rngP v1], [])) hl (by rw [jZ h0, jZ h1]) (by kernel_rfl) (by simp only [uK])
set_option maxRecDepth 100000 in
theorem snd_vals3_10 {R1 R2 B : List (List PV)} {p0 p1 p2 : Po} (hl : SndA1 Tryz.prog 73 [.a [.l R1, .l R2], .l B] (.v (lk3 p0 p1 p2))) (c0 c1 : Cn) (h0 : c0.link = 1) (h1 : c1.link = 0) : SndA1 Tryz.prog 42 [.a [.l R1, .l R2], .l [cp c0, cp c1], .l B] (.ow 37 2 [rngP (rng c0 p1), rngP (rng c1 p0)]) :=
  kX (r1 := [cpL c0 1, cpL c1 0]) (Y := byK c0 p1 fun v0 => byK c1 p0 fun v1 => some (.ow 37 2 [rngP v0, rngP v1], [])) hl (by rw [jZ h0, jZ h1]) (by kernel_rfl) (by simp only [uK])
set_option maxRecDepth 100000 in
theorem snd_vals3_11 {R1 R2 B : List (List PV)} {p0 p1 p2 : Po} (hl : SndA1 Tryz.prog 73 [.a [.l R1, .l R2], .l B] (.v (lk3 p0 p1 p2))) (c0 c1 : Cn) (h0 : c0.link = 1) (h1 : c1.link = 1) : SndA1 Tryz.prog 42 [.a [.l R1, .l R2], .l [cp c0, cp c1], .l B] (.ow 37 2 [rngP (rng c0 p1), rngP (rng c1 p1)]) :=
  kX (r1 := [cpL c0 1, cpL c1 1]) (Y := byK c0 p1 fun v0 => byK c1 p1 fun v1 => some (.ow 37 2 [rngP v0, rngP v1], [])) hl (by rw [jZ h0, jZ h1]) (by kernel_rfl) (by simp only [uK])
set_option maxRecDepth 100000 in
theorem snd_vals3_12 {R1 R2 B : List (List PV)} {p0 p1 p2 : Po} (hl : SndA1 Tryz.prog 73 [.a [.l R1, .l R2], .l B] (.v (lk3 p0 p1 p2))) (c0 c1 : Cn) (h0 : c0.link = 1) (h1 : c1.link = 2) : SndA1 Tryz.prog 42 [.a [.l R1, .l R2], .l [cp c0, cp c1], .l B] (.ow 37 2 [rngP (rng c0 p1), rngP (rng c1 p2)]) :=
  kX (r1 := [cpL c0 1, cpL c1 2]) (Y := byK c0 p1 fun v0 => byK c1 p2 fun v1 => some (.ow 37 2 [rngP v0, rngP v1], [])) hl (by rw [jZ h0, jZ h1]) (by kernel_rfl) (by simp only [uK])
set_option maxRecDepth 100000 in
theorem snd_vals3_20 {R1 R2 B : List (List PV)} {p0 p1 p2 : Po} (hl : SndA1 Tryz.prog 73 [.a [.l R1, .l R2], .l B] (.v (lk3 p0 p1 p2))) (c0 c1 : Cn) (h0 : c0.link = 2) (h1 : c1.link = 0) : SndA1 Tryz.prog 42 [.a [.l R1, .l R2], .l [cp c0, cp c1], .l B] (.ow 37 2 [rngP (rng c0 p2), rngP (rng c1 p0)]) :=
  kX (r1 := [cpL c0 2, cpL c1 0]) (Y := byK c0 p2 fun v0 => byK c1 p0 fun v1 => some (.ow 37 2 [rngP v0, rngP v1], [])) hl (by rw [jZ h0, jZ h1]) (by kernel_rfl) (by simp only [uK])
set_option maxRecDepth 100000 in
theorem snd_vals3_21 {R1 R2 B : List (List PV)} {p0 p1 p2 : Po} (hl : SndA1 Tryz.prog 73 [.a [.l R1, .l R2], .l B] (.v (lk3 p0 p1 p2))) (c0 c1 : Cn) (h0 : c0.link = 2) (h1 : c1.link = 1) : SndA1 Tryz.prog 42 [.a [.l R1, .l R2], .l [cp c0, cp c1], .l B] (.ow 37 2 [rngP (rng c0 p2), rngP (rng c1 p1)]) :=
  kX (r1 := [cpL c0 2, cpL c1 1]) (Y := byK c0 p2 fun v0 => byK c1 p1 fun v1 => some (.ow 37 2 [rngP v0, rngP v1], [])) hl (by rw [jZ h0, jZ h1]) (by kernel_rfl) (by simp only [uK])
set_option maxRecDepth 100000 in
theorem snd_vals3_22 {R1 R2 B : List (List PV)} {p0 p1 p2 : Po} (hl : SndA1 Tryz.prog 73 [.a [.l R1, .l R2], .l B] (.v (lk3 p0 p1 p2))) (c0 c1 : Cn) (h0 : c0.link = 2) (h1 : c1.link = 2) : SndA1 Tryz.prog 42 [.a [.l R1, .l R2], .l [cp c0, cp c1], .l B] (.ow 37 2 [rngP (rng c0 p2), rngP (rng c1 p2)]) :=
  kX (r1 := [cpL c0 2, cpL c1 2]) (Y := byK c0 p2 fun v0 => byK c1 p2 fun v1 => some (.ow 37 2 [rngP v0, rngP v1], [])) hl (by rw [jZ h0, jZ h1]) (by kernel_rfl) (by simp only [uK])
set_option maxRecDepth 100000 in
theorem snd_vals3_000 {R1 R2 B : List (List PV)} {p0 p1 p2 : Po} (hl : SndA1 Tryz.prog 73 [.a [.l R1, .l R2], .l B] (.v (lk3 p0 p1 p2))) (c0 c1 c2 : Cn) (h0 : c0.link = 0) (h1 : c1.link = 0) (h2 : c2.link = 0) : SndA1 Tryz.prog 42 [.a [.l R1, .l R2], .l [cp c0, cp c1, cp c2], .l B] (.ow 37 2 [rngP (rng c0 p0), rngP (rng c1 p0), rngP (rng c2 p0)]) :=
  kX (r1 := [cpL c0 0, cpL c1 0, cpL c2 0]) (Y := byK c0 p0 fun v0 => byK c1 p0 fun v1 => byK c2 p0 fun v2 => some (.ow 37 2 [rngP v0, rngP v1, rngP v2], [])) hl (by rw [jZ h0, jZ h1, jZ h2]) (by kernel_rfl) (by simp only [uK])
set_option maxRecDepth 100000 in
theorem snd_vals3_001 {R1 R2 B : List (List PV)} {p0 p1 p2 : Po} (hl : SndA1 Tryz.prog 73 [.a [.l R1, .l R2], .l B] (.v (lk3 p0 p1 p2))) (c0 c1 c2 : Cn) (h0 : c0.link = 0) (h1 : c1.link = 0) (h2 : c2.link = 1) : SndA1 Tryz.prog 42 [.a [.l R1, .l R2], .l [cp c0, cp c1, cp c2], .l B] (.ow 37 2 [rngP (rng c0 p0), rngP (rng c1 p0), rngP (rng c2 p1)]) :=
  kX (r1 := [cpL c0 0, cpL c1 0, cpL c2 1]) (Y := byK c0 p0 fun v0 => byK c1 p0 fun v1 => byK c2 p1 fun v2 => some (.ow 37 2 [rngP v0, rngP v1, rngP v2], [])) hl (by rw [jZ h0, jZ h1, jZ h2]) (by kernel_rfl) (by simp only [uK])
set_option maxRecDepth 100000 in
theorem snd_vals3_002 {R1 R2 B : List (List PV)} {p0 p1 p2 : Po} (hl : SndA1 Tryz.prog 73 [.a [.l R1, .l R2], .l B] (.v (lk3 p0 p1 p2))) (c0 c1 c2 : Cn) (h0 : c0.link = 0) (h1 : c1.link = 0) (h2 : c2.link = 2) : SndA1 Tryz.prog 42 [.a [.l R1, .l R2], .l [cp c0, cp c1, cp c2], .l B] (.ow 37 2 [rngP (rng c0 p0), rngP (rng c1 p0), rngP (rng c2 p2)]) :=
  kX (r1 := [cpL c0 0, cpL c1 0, cpL c2 2]) (Y := byK c0 p0 fun v0 => byK c1 p0 fun v1 => byK c2 p2 fun v2 => some (.ow 37 2 [rngP v0, rngP v1, rngP v2], [])) hl (by rw [jZ h0, jZ h1, jZ h2]) (by kernel_rfl) (by simp only [uK])
set_option maxRecDepth 100000 in
theorem snd_vals3_010 {R1 R2 B : List (List PV)} {p0 p1 p2 : Po} (hl : SndA1 Tryz.prog 73 [.a [.l R1, .l R2], .l B] (.v (lk3 p0 p1 p2))) (c0 c1 c2 : Cn) (h0 : c0.link = 0) (h1 : c1.link = 1) (h2 : c2.link = 0) : SndA1 Tryz.prog 42 [.a [.l R1, .l R2], .l [cp c0, cp c1, cp c2], .l B] (.ow 37 2 [rngP (rng c0 p0), rngP (rng c1 p1), rngP (rng c2 p0)]) :=
  kX (r1 := [cpL c0 0, cpL c1 1, cpL c2 0]) (Y := byK c0 p0 fun v0 => byK c1 p1 fun v1 => byK c2 p0 fun v2 => some (.ow 37 2 [rngP v0, rngP v1, rngP v2], [])) hl (by rw [jZ h0, jZ h1, jZ h2]) (by kernel_rfl) (by simp only [uK])
set_option maxRecDepth 100000 in
theorem snd_vals3_011 {R1 R2 B : List (List PV)} {p0 p1 p2 : Po} (hl : SndA1 Tryz.prog 73 [.a [.l R1, .l R2], .l B] (.v (lk3 p0 p1 p2))) (c0 c1 c2 : Cn) (h0 : c0.link = 0) (h1 : c1.link = 1) (h2 : c2.link = 1) : SndA1 Tryz.prog 42 [.a [.l R1, .l R2], .l [cp c0, cp c1, cp c2], .l B] (.ow 37 2 [rngP (rng c0 p0), rngP (rng c1 p1), rngP (rng c2 p1)]) :=
  kX (r1 := [cpL c0 0, cpL c1 1, cpL c2 1]) (Y := byK c0 p0 fun v0 => byK c1 p1 fun v1 => byK c2 p1 fun v2 => some (.ow 37 2 [rngP v0, rngP v1, rngP v2], [])) hl (by rw [jZ h0, jZ h1, jZ h2]) (by kernel_rfl) (by simp only [uK])
set_option maxRecDepth 100000 in
theorem snd_vals3_012 {R1 R2 B : List (List PV)} {p0 p1 p2 : Po} (hl : SndA1 Tryz.prog 73 [.a [.l R1, .l R2], .l B] (.v (lk3 p0 p1 p2))) (c0 c1 c2 : Cn) (h0 : c0.link = 0) (h1 : c1.link = 1) (h2 : c2.link = 2) : SndA1 Tryz.prog 42 [.a [.l R1, .l R2], .l [cp c0, cp c1, cp c2], .l B] (.ow 37 2 [rngP (rng c0 p0), rngP (rng c1 p1), rngP (rng c2 p2)]) :=
  kX (r1 := [cpL c0 0, cpL c1 1, cpL c2 2]) (Y := byK c0 p0 fun v0 => byK c1 p1 fun v1 => byK c2 p2 fun v2 => some (.ow 37 2 [rngP v0, rngP v1, rngP v2], [])) hl (by rw [jZ h0, jZ h1, jZ h2]) (by kernel_rfl) (by simp only [uK])
set_option maxRecDepth 100000 in
theorem snd_vals3_020 {R1 R2 B : List (List PV)} {p0 p1 p2 : Po} (hl : SndA1 Tryz.prog 73 [.a [.l R1, .l R2], .l B] (.v (lk3 p0 p1 p2))) (c0 c1 c2 : Cn) (h0 : c0.link = 0) (h1 : c1.link = 2) (h2 : c2.link = 0) : SndA1 Tryz.prog 42 [.a [.l R1, .l R2], .l [cp c0, cp c1, cp c2], .l B] (.ow 37 2 [rngP (rng c0 p0), rngP (rng c1 p2), rngP (rng c2 p0)]) :=
  kX (r1 := [cpL c0 0, cpL c1 2, cpL c2 0]) (Y := byK c0 p0 fun v0 => byK c1 p2 fun v1 => byK c2 p0 fun v2 => some (.ow 37 2 [rngP v0, rngP v1, rngP v2], [])) hl (by rw [jZ h0, jZ h1, jZ h2]) (by kernel_rfl) (by simp only [uK])
set_option maxRecDepth 100000 in
theorem snd_vals3_021 {R1 R2 B : List (List PV)} {p0 p1 p2 : Po} (hl : SndA1 Tryz.prog 73 [.a [.l R1, .l R2], .l B] (.v (lk3 p0 p1 p2))) (c0 c1 c2 : Cn) (h0 : c0.link = 0) (h1 : c1.link = 2) (h2 : c2.link = 1) : SndA1 Tryz.prog 42 [.a [.l R1, .l R2], .l [cp c0, cp c1, cp c2], .l B] (.ow 37 2 [rngP (rng c0 p0), rngP (rng c1 p2), rngP (rng c2 p1)]) :=
  kX (r1 := [cpL c0 0, cpL c1 2, cpL c2 1]) (Y := byK c0 p0 fun v0 => byK c1 p2 fun v1 => byK c2 p1 fun v2 => some (.ow 37 2 [rngP v0, rngP v1, rngP v2], [])) hl (by rw [jZ h0, jZ h1, jZ h2]) (by kernel_rfl) (by simp only [uK])
set_option maxRecDepth 100000 in
theorem snd_vals3_022 {R1 R2 B : List (List PV)} {p0 p1 p2 : Po} (hl : SndA1 Tryz.prog 73 [.a [.l R1, .l R2], .l B] (.v (lk3 p0 p1 p2))) (c0 c1 c2 : Cn) (h0 : c0.link = 0) (h1 : c1.link = 2) (h2 : c2.link = 2) : SndA1 Tryz.prog 42 [.a [.l R1, .l R2], .l [cp c0, cp c1, cp c2], .l B] (.ow 37 2 [rngP (rng c0 p0), rngP (rng c1 p2), rngP (rng c2 p2)]) :=
  kX (r1 := [cpL c0 0, cpL c1 2, cpL c2 2]) (Y := byK c0 p0 fun v0 => byK c1 p2 fun v1 => byK c2 p2 fun v2 => some (.ow 37 2 [rngP v0, rngP v1, rngP v2], [])) hl (by rw [jZ h0, jZ h1, jZ h2]) (by kernel_rfl) (by simp only [uK])
set_option maxRecDepth 100000 in
theorem snd_vals3_100 {R1 R2 B : List (List PV)} {p0 p1 p2 : Po} (hl : SndA1 Tryz.prog 73 [.a [.l R1, .l R2], .l B] (.v (lk3 p0 p1 p2))) (c0 c1 c2 : Cn) (h0 : c0.link = 1) (h1 : c1.link = 0) (h2 : c2.link = 0) : SndA1 Tryz.prog 42 [.a [.l R1, .l R2], .l [cp c0, cp c1, cp c2], .l B] (.ow 37 2 [rngP (rng c0 p1), rngP (rng c1 p0), rngP (rng c2 p0)]) :=
  kX (r1 := [cpL c0 1, cpL c1 0, cpL c2 0]) (Y := byK c0 p1 fun v0 => byK c1 p0 fun v1 => byK c2 p0 fun v2 => some (.ow 37 2 [rngP v0, rngP v1, rngP v2], [])) hl (by rw [jZ h0, jZ h1, jZ h2]) (by kernel_rfl) (by simp only [uK])
set_option maxRecDepth 100000 in
theorem snd_vals3_101 {R1 R2 B : List (List PV)} {p0 p1 p2 : Po} (hl : SndA1 Tryz.prog 73 [.a [.l R1, .l R2], .l B] (.v (lk3 p0 p1 p2))) (c0 c1 c2 : Cn) (h0 : c0.link = 1) (h1 : c1.link = 0) (h2 : c2.link = 1) : SndA1 Tryz.prog 42 [.a [.l R1, .l R2], .l [cp c0, cp c1, cp c2], .l B] (.ow 37 2 [rngP (rng c0 p1), rngP (rng c1 p0), rngP (rng c2 p1)]) :=
  kX (r1 := [cpL c0 1, cpL c1 0, cpL c2 1]) (Y := byK c0 p1 fun v0 => byK c1 p0 fun v1 => byK c2 p1 fun v2 => some (.ow 37 2 [rngP v0, rngP v1, rngP v2], [])) hl (by rw [jZ h0, jZ h1, jZ h2]) (by kernel_rfl) (by simp only [uK])
set_option maxRecDepth 100000 in
theorem snd_vals3_102 {R1 R2 B : List (List PV)} {p0 p1 p2 : Po} (hl : SndA1 Tryz.prog 73 [.a [.l R1, .l R2], .l B] (.v (lk3 p0 p1 p2))) (c0 c1 c2 : Cn) (h0 : c0.link = 1) (h1 : c1.link = 0) (h2 : c2.link = 2) : SndA1 Tryz.prog 42 [.a [.l R1, .l R2], .l [cp c0, cp c1, cp c2], .l B] (.ow 37 2 [rngP (rng c0 p1), rngP (rng c1 p0), rngP (rng c2 p2)]) :=
  kX (r1 := [cpL c0 1, cpL c1 0, cpL c2 2]) (Y := byK c0 p1 fun v0 => byK c1 p0 fun v1 => byK c2 p2 fun v2 => some (.ow 37 2 [rngP v0, rngP v1, rngP v2], [])) hl (by rw [jZ h0, jZ h1, jZ h2]) (by kernel_rfl) (by simp only [uK])
set_option maxRecDepth 100000 in
theorem snd_vals3_110 {R1 R2 B : List (List PV)} {p0 p1 p2 : Po} (hl : SndA1 Tryz.prog 73 [.a [.l R1, .l R2], .l B] (.v (lk3 p0 p1 p2))) (c0 c1 c2 : Cn) (h0 : c0.link = 1) (h1 : c1.link = 1) (h2 : c2.link = 0) : SndA1 Tryz.prog 42 [.a [.l R1, .l R2], .l [cp c0, cp c1, cp c2], .l B] (.ow 37 2 [rngP (rng c0 p1), rngP (rng c1 p1), rngP (rng c2 p0)]) :=
  kX (r1 := [cpL c0 1, cpL c1 1, cpL c2 0]) (Y := byK c0 p1 fun v0 => byK c1 p1 fun v1 => byK c2 p0 fun v2 => some (.ow 37 2 [rngP v0, rngP v1, rngP v2], [])) hl (by rw [jZ h0, jZ h1, jZ h2]) (by kernel_rfl) (by simp only [uK])
set_option maxRecDepth 100000 in
theorem snd_vals3_111 {R1 R2 B : List (List PV)} {p0 p1 p2 : Po} (hl : SndA1 Tryz.prog 73 [.a [.l R1, .l R2], .l B] (.v (lk3 p0 p1 p2))) (c0 c1 c2 : Cn) (h0 : c0.link = 1) (h1 : c1.link = 1) (h2 : c2.link = 1) : SndA1 Tryz.prog 42 [.a [.l R1, .l R2], .l [cp c0, cp c1, cp c2], .l B] (.ow 37 2 [rngP (rng c0 p1), rngP (rng c1 p1), rngP (rng c2 p1)]) :=
  kX (r1 := [cpL c0 1, cpL c1 1, cpL c2 1]) (Y := byK c0 p1 fun v0 => byK c1 p1 fun v1 => byK c2 p1 fun v2 => some (.ow 37 2 [rngP v0, rngP v1, rngP v2], [])) hl (by rw [jZ h0, jZ h1, jZ h2]) (by kernel_rfl) (by simp only [uK])
set_option maxRecDepth 100000 in
theorem snd_vals3_112 {R1 R2 B : List (List PV)} {p0 p1 p2 : Po} (hl : SndA1 Tryz.prog 73 [.a [.l R1, .l R2], .l B] (.v (lk3 p0 p1 p2))) (c0 c1 c2 : Cn) (h0 : c0.link = 1) (h1 : c1.link = 1) (h2 : c2.link = 2) : SndA1 Tryz.prog 42 [.a [.l R1, .l R2], .l [cp c0, cp c1, cp c2], .l B] (.ow 37 2 [rngP (rng c0 p1), rngP (rng c1 p1), rngP (rng c2 p2)]) :=
  kX (r1 := [cpL c0 1, cpL c1 1, cpL c2 2]) (Y := byK c0 p1 fun v0 => byK c1 p1 fun v1 => byK c2 p2 fun v2 => some (.ow 37 2 [rngP v0, rngP v1, rngP v2], [])) hl (by rw [jZ h0, jZ h1, jZ h2]) (by kernel_rfl) (by simp only [uK])
set_option maxRecDepth 100000 in
theorem snd_vals3_120 {R1 R2 B : List (List PV)} {p0 p1 p2 : Po} (hl : SndA1 Tryz.prog 73 [.a [.l R1, .l R2], .l B] (.v (lk3 p0 p1 p2))) (c0 c1 c2 : Cn) (h0 : c0.link = 1) (h1 : c1.link = 2) (h2 : c2.link = 0) : SndA1 Tryz.prog 42 [.a [.l R1, .l R2], .l [cp c0, cp c1, cp c2], .l B] (.ow 37 2 [rngP (rng c0 p1), rngP (rng c1 p2), rngP (rng c2 p0)]) :=
  kX (r1 := [cpL c0 1, cpL c1 2, cpL c2 0]) (Y := byK c0 p1 fun v0 => byK c1 p2 fun v1 => byK c2 p0 fun v2 => some (.ow 37 2 [rngP v0, rngP v1, rngP v2], [])) hl (by rw [jZ h0, jZ h1, jZ h2]) (by kernel_rfl) (by simp only [uK])
set_option maxRecDepth 100000 in
theorem snd_vals3_121 {R1 R2 B : List (List PV)} {p0 p1 p2 : Po} (hl : SndA1 Tryz.prog 73 [.a [.l R1, .l R2], .l B] (.v (lk3 p0 p1 p2))) (c0 c1 c2 : Cn) (h0 : c0.link = 1) (h1 : c1.link = 2) (h2 : c2.link = 1) : SndA1 Tryz.prog 42 [.a [.l R1, .l R2], .l [cp c0, cp c1, cp c2], .l B] (.ow 37 2 [rngP (rng c0 p1), rngP (rng c1 p2), rngP (rng c2 p1)]) :=
  kX (r1 := [cpL c0 1, cpL c1 2, cpL c2 1]) (Y := byK c0 p1 fun v0 => byK c1 p2 fun v1 => byK c2 p1 fun v2 => some (.ow 37 2 [rngP v0, rngP v1, rngP v2], [])) hl (by rw [jZ h0, jZ h1, jZ h2]) (by kernel_rfl) (by simp only [uK])
set_option maxRecDepth 100000 in
theorem snd_vals3_122 {R1 R2 B : List (List PV)} {p0 p1 p2 : Po} (hl : SndA1 Tryz.prog 73 [.a [.l R1, .l R2], .l B] (.v (lk3 p0 p1 p2))) (c0 c1 c2 : Cn) (h0 : c0.link = 1) (h1 : c1.link = 2) (h2 : c2.link = 2) : SndA1 Tryz.prog 42 [.a [.l R1, .l R2], .l [cp c0, cp c1, cp c2], .l B] (.ow 37 2 [rngP (rng c0 p1), rngP (rng c1 p2), rngP (rng c2 p2)]) :=
  kX (r1 := [cpL c0 1, cpL c1 2, cpL c2 2]) (Y := byK c0 p1 fun v0 => byK c1 p2 fun v1 => byK c2 p2 fun v2 => some (.ow 37 2 [rngP v0, rngP v1, rngP v2], [])) hl (by rw [jZ h0, jZ h1, jZ h2]) (by kernel_rfl) (by simp only [uK])
set_option maxRecDepth 100000 in
theorem snd_vals3_200 {R1 R2 B : List (List PV)} {p0 p1 p2 : Po} (hl : SndA1 Tryz.prog 73 [.a [.l R1, .l R2], .l B] (.v (lk3 p0 p1 p2))) (c0 c1 c2 : Cn) (h0 : c0.link = 2) (h1 : c1.link = 0) (h2 : c2.link = 0) : SndA1 Tryz.prog 42 [.a [.l R1, .l R2], .l [cp c0, cp c1, cp c2], .l B] (.ow 37 2 [rngP (rng c0 p2), rngP (rng c1 p0), rngP (rng c2 p0)]) :=
  kX (r1 := [cpL c0 2, cpL c1 0, cpL c2 0]) (Y := byK c0 p2 fun v0 => byK c1 p0 fun v1 => byK c2 p0 fun v2 => some (.ow 37 2 [rngP v0, rngP v1, rngP v2], [])) hl (by rw [jZ h0, jZ h1, jZ h2]) (by kernel_rfl) (by simp only [uK])
set_option maxRecDepth 100000 in
theorem snd_vals3_201 {R1 R2 B : List (List PV)} {p0 p1 p2 : Po} (hl : SndA1 Tryz.prog 73 [.a [.l R1, .l R2], .l B] (.v (lk3 p0 p1 p2))) (c0 c1 c2 : Cn) (h0 : c0.link = 2) (h1 : c1.link = 0) (h2 : c2.link = 1) : SndA1 Tryz.prog 42 [.a [.l R1, .l R2], .l [cp c0, cp c1, cp c2], .l B] (.ow 37 2 [rngP (rng c0 p2), rngP (rng c1 p0), rngP (rng c2 p1)]) :=
  kX (r1 := [cpL c0 2, cpL c1 0, cpL c2 1]) (Y := byK c0 p2 fun v0 => byK c1 p0 fun v1 => byK c2 p1 fun v2 => some (.ow 37 2 [rngP v0, rngP v1, rngP v2], [])) hl (by rw [jZ h0, jZ h1, jZ h2]) (by kernel_rfl) (by simp only [uK])
set_option maxRecDepth 100000 in
theorem snd_vals3_202 {R1 R2 B : List (List PV)} {p0 p1 p2 : Po} (hl : SndA1 Tryz.prog 73 [.a [.l R1, .l R2], .l B] (.v (lk3 p0 p1 p2))) (c0 c1 c2 : Cn) (h0 : c0.link = 2) (h1 : c1.link = 0) (h2 : c2.link = 2) : SndA1 Tryz.prog 42 [.a [.l R1, .l R2], .l [cp c0, cp c1, cp c2], .l B] (.ow 37 2 [rngP (rng c0 p2), rngP (rng c1 p0), rngP (rng c2 p2)]) :=
  kX (r1 := [cpL c0 2, cpL c1 0, cpL c2 2]) (Y := byK c0 p2 fun v0 => byK c1 p0 fun v1 => byK c2 p2 fun v2 => some (.ow 37 2 [rngP v0, rngP v1, rngP v2], [])) hl (by rw [jZ h0, jZ h1, jZ h2]) (by kernel_rfl) (by simp only [uK])
set_option maxRecDepth 100000 in
theorem snd_vals3_210 {R1 R2 B : List (List PV)} {p0 p1 p2 : Po} (hl : SndA1 Tryz.prog 73 [.a [.l R1, .l R2], .l B] (.v (lk3 p0 p1 p2))) (c0 c1 c2 : Cn) (h0 : c0.link = 2) (h1 : c1.link = 1) (h2 : c2.link = 0) : SndA1 Tryz.prog 42 [.a [.l R1, .l R2], .l [cp c0, cp c1, cp c2], .l B] (.ow 37 2 [rngP (rng c0 p2), rngP (rng c1 p1), rngP (rng c2 p0)]) :=
  kX (r1 := [cpL c0 2, cpL c1 1, cpL c2 0]) (Y := byK c0 p2 fun v0 => byK c1 p1 fun v1 => byK c2 p0 fun v2 => some (.ow 37 2 [rngP v0, rngP v1, rngP v2], [])) hl (by rw [jZ h0, jZ h1, jZ h2]) (by kernel_rfl) (by simp only [uK])
set_option maxRecDepth 100000 in
theorem snd_vals3_211 {R1 R2 B : List (List PV)} {p0 p1 p2 : Po} (hl : SndA1 Tryz.prog 73 [.a [.l R1, .l R2], .l B] (.v (lk3 p0 p1 p2))) (c0 c1 c2 : Cn) (h0 : c0.link = 2) (h1 : c1.link = 1) (h2 : c2.link = 1) : SndA1 Tryz.prog 42 [.a [.l R1, .l R2], .l [cp c0, cp c1, cp c2], .l B] (.ow 37 2 [rngP (rng c0 p2), rngP (rng c1 p1), rngP (rng c2 p1)]) :=
  kX (r1 := [cpL c0 2, cpL c1 1, cpL c2 1]) (Y := byK c0 p2 fun v0 => byK c1 p1 fun v1 => byK c2 p1 fun v2 => some (.ow 37 2 [rngP v0, rngP v1, rngP v2], [])) hl (by rw [jZ h0, jZ h1, jZ h2]) (by kernel_rfl) (by simp only [uK])
set_option maxRecDepth 100000 in
theorem snd_vals3_212 {R1 R2 B : List (List PV)} {p0 p1 p2 : Po} (hl : SndA1 Tryz.prog 73 [.a [.l R1, .l R2], .l B] (.v (lk3 p0 p1 p2))) (c0 c1 c2 : Cn) (h0 : c0.link = 2) (h1 : c1.link = 1) (h2 : c2.link = 2) : SndA1 Tryz.prog 42 [.a [.l R1, .l R2], .l [cp c0, cp c1, cp c2], .l B] (.ow 37 2 [rngP (rng c0 p2), rngP (rng c1 p1), rngP (rng c2 p2)]) :=
  kX (r1 := [cpL c0 2, cpL c1 1, cpL c2 2]) (Y := byK c0 p2 fun v0 => byK c1 p1 fun v1 => byK c2 p2 fun v2 => some (.ow 37 2 [rngP v0, rngP v1, rngP v2], [])) hl (by rw [jZ h0, jZ h1, jZ h2]) (by kernel_rfl) (by simp only [uK])
set_option maxRecDepth 100000 in
theorem snd_vals3_220 {R1 R2 B : List (List PV)} {p0 p1 p2 : Po} (hl : SndA1 Tryz.prog 73 [.a [.l R1, .l R2], .l B] (.v (lk3 p0 p1 p2))) (c0 c1 c2 : Cn) (h0 : c0.link = 2) (h1 : c1.link = 2) (h2 : c2.link = 0) : SndA1 Tryz.prog 42 [.a [.l R1, .l R2], .l [cp c0, cp c1, cp c2], .l B] (.ow 37 2 [rngP (rng c0 p2), rngP (rng c1 p2), rngP (rng c2 p0)]) :=
  kX (r1 := [cpL c0 2, cpL c1 2, cpL c2 0]) (Y := byK c0 p2 fun v0 => byK c1 p2 fun v1 => byK c2 p0 fun v2 => some (.ow 37 2 [rngP v0, rngP v1, rngP v2], [])) hl (by rw [jZ h0, jZ h1, jZ h2]) (by kernel_rfl) (by simp only [uK])
set_option maxRecDepth 100000 in
theorem snd_vals3_221 {R1 R2 B : List (List PV)} {p0 p1 p2 : Po} (hl : SndA1 Tryz.prog 73 [.a [.l R1, .l R2], .l B] (.v (lk3 p0 p1 p2))) (c0 c1 c2 : Cn) (h0 : c0.link = 2) (h1 : c1.link = 2) (h2 : c2.link = 1) : SndA1 Tryz.prog 42 [.a [.l R1, .l R2], .l [cp c0, cp c1, cp c2], .l B] (.ow 37 2 [rngP (rng c0 p2), rngP (rng c1 p2), rngP (rng c2 p1)]) :=
  kX (r1 := [cpL c0 2, cpL c1 2, cpL c2 1]) (Y := byK c0 p2 fun v0 => byK c1 p2 fun v1 => byK c2 p1 fun v2 => some (.ow 37 2 [rngP v0, rngP v1, rngP v2], [])) hl (by rw [jZ h0, jZ h1, jZ h2]) (by kernel_rfl) (by simp only [uK])
set_option maxRecDepth 100000 in
theorem snd_vals3_222 {R1 R2 B : List (List PV)} {p0 p1 p2 : Po} (hl : SndA1 Tryz.prog 73 [.a [.l R1, .l R2], .l B] (.v (lk3 p0 p1 p2))) (c0 c1 c2 : Cn) (h0 : c0.link = 2) (h1 : c1.link = 2) (h2 : c2.link = 2) : SndA1 Tryz.prog 42 [.a [.l R1, .l R2], .l [cp c0, cp c1, cp c2], .l B] (.ow 37 2 [rngP (rng c0 p2), rngP (rng c1 p2), rngP (rng c2 p2)]) :=
  kX (r1 := [cpL c0 2, cpL c1 2, cpL c2 2]) (Y := byK c0 p2 fun v0 => byK c1 p2 fun v1 => byK c2 p2 fun v2 => some (.ow 37 2 [rngP v0, rngP v1, rngP v2], [])) hl (by rw [jZ h0, jZ h1, jZ h2]) (by kernel_rfl) (by simp only [uK])
end Go.Proofs.YtnlnbnjnapofmaaGreat.Mv
namespace Go.Proofs.YtnlnbnjnapofmaaGreat.Mh
open Go.Rx Rt Go.Sx Go.RowKit
open Od Ov Ow Mw Mv
def hld : List Cn → List (Int × Int) → Bool
  | c :: cs, v :: vs => !(decide (v.1 < c.lo)) && (!(decide (c.hi < v.2)) && hld cs vs)
  | _, _ => true
def brk : List Cn → List (Int × Int) → Bool
  | c :: cs, v :: vs => decide (v.2 < c.lo) || (decide (c.hi < v.1) || brk cs vs)
  | _, _ => false
set_option maxRecDepth 100000 in
theorem tr_Holds1_0 (R1 R2 B : List (List PV)) (c0 : Cn) : runK T (OrL.k [(40, o_cr [.a [.l R1, .l R2], .l [cp c0]] (.v (.b false))), (41, o_cr [.a [.l R1, .l R2], .l B] (.v (.b true)))]) 60 19 [.a [.l R1, .l R2], .l [cp c0], .l B] =
  bif (g1 [.a [.l R1, .l R2], .l [(cp c0)]]) then some (.v (.b false), [])
 else none := by kernel_rfl
set_option maxRecDepth 100000 in
theorem tr_Holds1 (R1 R2 B : List (List PV)) (c0 : Cn) (v0 : Int × Int) : runK T (OrL.k [(40, o_cr [.a [.l R1, .l R2], .l [cp c0]] (.v (.b true))), (41, o_cr [.a [.l R1, .l R2], .l B] (.v (.b true))), (42, o_cr [.a [.l R1, .l R2], .l [cp c0], .l B] (.ow 37 2 [rngP v0]))]) 60 19 [.a [.l R1, .l R2], .l [cp c0], .l B] =
  bif (g1 [.a [.l R1, .l R2], .l [(cp c0)]]) then (bif (g1 [.a [.l R1, .l R2], .l B]) then (bif (g1 [.a [.l R1, .l R2], .l [(cp c0)], .l B]) then (bif (decide (v0.1 < c0.lo)) then some (.v (.b false), [])
 else bif (decide (c0.hi < v0.2)) then some (.v (.b false), [])
 else some (.v (.b true), []))
 else none)
 else none)
 else none := by kernel_rfl
theorem snd_Holds1_0 {R1 R2 B : List (List PV)} (c0 : Cn) (hc : SndA1 Tryz.prog 40 [.a [.l R1, .l R2], .l [cp c0]] (.v (.b false))) (hi : SndA1 Tryz.prog 41 [.a [.l R1, .l R2], .l B] (.v (.b true))) : SndA1 Tryz.prog 19 [.a [.l R1, .l R2], .l [cp c0], .l B] (.v (.b false)) := by
  refine kY (N := 60) tabOk mixed (OrL.ok (l := [(40, o_cr [.a [.l R1, .l R2], .l [cp c0]] (.v (.b false))), (41, o_cr [.a [.l R1, .l R2], .l B] (.v (.b true)))]) ⟨ok_cr hc, ok_cr hi, trivial⟩) ?_
  refine (tr_Holds1_0 _ _ _ c0).trans ?_
  simp only [g1_t, cond_true]
theorem snd_Holds1 {R1 R2 B : List (List PV)} (c0 : Cn) (v0 : Int × Int) (hc : SndA1 Tryz.prog 40 [.a [.l R1, .l R2], .l [cp c0]] (.v (.b true))) (hi : SndA1 Tryz.prog 41 [.a [.l R1, .l R2], .l B] (.v (.b true))) (hv : SndA1 Tryz.prog 42 [.a [.l R1, .l R2], .l [cp c0], .l B] (.ow 37 2 [rngP v0])) : SndA1 Tryz.prog 19 [.a [.l R1, .l R2], .l [cp c0], .l B] (.v (.b (hld [c0] [v0]))) := by
  refine kY (N := 60) tabOk mixed (OrL.ok (l := [(40, o_cr [.a [.l R1, .l R2], .l [cp c0]] (.v (.b true))), (41, o_cr [.a [.l R1, .l R2], .l B] (.v (.b true))), (42, o_cr [.a [.l R1, .l R2], .l [cp c0], .l B] (.ow 37 2 [rngP v0]))]) ⟨ok_cr hc, ok_cr hi, ok_cr hv, trivial⟩) ?_
  refine (tr_Holds1 _ _ _ c0 v0).trans ?_
  simp only [g1_t, cond_true]
  simp only [hld]
  cases decide (v0.1 < c0.lo) <;> cases decide (c0.hi < v0.2) <;> rfl
set_option maxRecDepth 100000 in
theorem tr_Broken1_0 (R1 R2 B : List (List PV)) (c0 : Cn) : runK T (OrL.k [(40, o_cr [.a [.l R1, .l R2], .l [cp c0]] (.v (.b false))), (41, o_cr [.a [.l R1, .l R2], .l B] (.v (.b true)))]) 60 18 [.a [.l R1, .l R2], .l [cp c0], .l B] =
  bif (g1 [.a [.l R1, .l R2], .l [(cp c0)]]) then some (.v (.t [.n .i64 0, .b false]), [])
 else none := by kernel_rfl
set_option maxRecDepth 100000 in
theorem tr_Broken1 (R1 R2 B : List (List PV)) (c0 : Cn) (v0 : Int × Int) : runK T (OrL.k [(40, o_cr [.a [.l R1, .l R2], .l [cp c0]] (.v (.b true))), (41, o_cr [.a [.l R1, .l R2], .l B] (.v (.b true))), (42, o_cr [.a [.l R1, .l R2], .l [cp c0], .l B] (.ow 37 2 [rngP v0]))]) 60 18 [.a [.l R1, .l R2], .l [cp c0], .l B] =
  bif (g1 [.a [.l R1, .l R2], .l [(cp c0)]]) then (bif (g1 [.a [.l R1, .l R2], .l B]) then (bif (g1 [.a [.l R1, .l R2], .l [(cp c0)], .l B]) then (bif (decide (v0.2 < c0.lo)) then some (.v (.t [.n .i64 0, .b true]), [])
 else bif (decide (c0.hi < v0.1)) then some (.v (.t [.n .i64 0, .b true]), [])
 else some (.v (.t [.n .i64 0, .b false]), []))
 else none)
 else none)
 else none := by kernel_rfl
theorem snd_Broken1_0 {R1 R2 B : List (List PV)} (c0 : Cn) (hc : SndA1 Tryz.prog 40 [.a [.l R1, .l R2], .l [cp c0]] (.v (.b false))) (hi : SndA1 Tryz.prog 41 [.a [.l R1, .l R2], .l B] (.v (.b true))) : SndA1 Tryz.prog 18 [.a [.l R1, .l R2], .l [cp c0], .l B] (.v (.t [.n .i64 0, .b false])) := by
  refine kY (N := 60) tabOk mixed (OrL.ok (l := [(40, o_cr [.a [.l R1, .l R2], .l [cp c0]] (.v (.b false))), (41, o_cr [.a [.l R1, .l R2], .l B] (.v (.b true)))]) ⟨ok_cr hc, ok_cr hi, trivial⟩) ?_
  refine (tr_Broken1_0 _ _ _ c0).trans ?_
  simp only [g1_t, cond_true]
def brI1 (c0 : Cn) (v0 : Int × Int) : Int := (bif (decide (v0.2 < c0.lo)) then 0 else (bif (decide (c0.hi < v0.1)) then 0 else 0))
theorem snd_Broken1 {R1 R2 B : List (List PV)} (c0 : Cn) (v0 : Int × Int) (hc : SndA1 Tryz.prog 40 [.a [.l R1, .l R2], .l [cp c0]] (.v (.b true))) (hi : SndA1 Tryz.prog 41 [.a [.l R1, .l R2], .l B] (.v (.b true))) (hv : SndA1 Tryz.prog 42 [.a [.l R1, .l R2], .l [cp c0], .l B] (.ow 37 2 [rngP v0])) : SndA1 Tryz.prog 18 [.a [.l R1, .l R2], .l [cp c0], .l B] (.v (.t [.n .i64 (brI1 c0 v0), .b (brk [c0] [v0])])) := by
  refine kY (N := 60) tabOk mixed (OrL.ok (l := [(40, o_cr [.a [.l R1, .l R2], .l [cp c0]] (.v (.b true))), (41, o_cr [.a [.l R1, .l R2], .l B] (.v (.b true))), (42, o_cr [.a [.l R1, .l R2], .l [cp c0], .l B] (.ow 37 2 [rngP v0]))]) ⟨ok_cr hc, ok_cr hi, ok_cr hv, trivial⟩) ?_
  refine (tr_Broken1 _ _ _ c0 v0).trans ?_
  simp only [g1_t, cond_true]
  simp only [brk]
  unfold brI1
  cases decide (v0.2 < c0.lo) <;> cases decide (c0.hi < v0.1) <;> rfl
set_option maxRecDepth 100000 in
theorem tr_Value1_0 (R1 R2 B : List (List PV)) (c0 : Cn) : runK T (OrL.k [(40, o_cr [.a [.l R1, .l R2], .l [cp c0]] (.v (.b false))), (41, o_cr [.a [.l R1, .l R2], .l B] (.v (.b true)))]) 60 13 [.a [.l R1, .l R2], .a (cp c0), .l B] =
  bif (g1 [.a [.l R1, .l R2], .l [(cp c0)]]) then some (.v (.t [.a [.n .i64 0, .n .i64 0], .b false]), [])
 else none := by kernel_rfl
set_option maxRecDepth 100000 in
theorem tr_Value1 (R1 R2 B : List (List PV)) (c0 : Cn) (v0 : Int × Int) : runK T (OrL.k [(40, o_cr [.a [.l R1, .l R2], .l [cp c0]] (.v (.b true))), (41, o_cr [.a [.l R1, .l R2], .l B] (.v (.b true))), (42, o_cr [.a [.l R1, .l R2], .l [cp c0], .l B] (.ow 37 2 [rngP v0]))]) 60 13 [.a [.l R1, .l R2], .a (cp c0), .l B] =
  bif (g1 [.a [.l R1, .l R2], .l [(cp c0)]]) then (bif (g1 [.a [.l R1, .l R2], .l B]) then (bif (g1 [.a [.l R1, .l R2], .l [(cp c0)], .l B]) then some (.v (.t [.a [.n .i64 v0.1, .n .i64 v0.2], .b true]), [])
 else none)
 else none)
 else none := by kernel_rfl
theorem snd_Value1_0 {R1 R2 B : List (List PV)} (c0 : Cn) (hc : SndA1 Tryz.prog 40 [.a [.l R1, .l R2], .l [cp c0]] (.v (.b false))) (hi : SndA1 Tryz.prog 41 [.a [.l R1, .l R2], .l B] (.v (.b true))) : SndA1 Tryz.prog 13 [.a [.l R1, .l R2], .a (cp c0), .l B] (.v (.t [.a [.n .i64 0, .n .i64 0], .b false])) := by
  refine kY (N := 60) tabOk mixed (OrL.ok (l := [(40, o_cr [.a [.l R1, .l R2], .l [cp c0]] (.v (.b false))), (41, o_cr [.a [.l R1, .l R2], .l B] (.v (.b true)))]) ⟨ok_cr hc, ok_cr hi, trivial⟩) ?_
  refine (tr_Value1_0 _ _ _ c0).trans ?_
  simp only [g1_t, cond_true]
theorem snd_Value1 {R1 R2 B : List (List PV)} (c0 : Cn) (v0 : Int × Int) (hc : SndA1 Tryz.prog 40 [.a [.l R1, .l R2], .l [cp c0]] (.v (.b true))) (hi : SndA1 Tryz.prog 41 [.a [.l R1, .l R2], .l B] (.v (.b true))) (hv : SndA1 Tryz.prog 42 [.a [.l R1, .l R2], .l [cp c0], .l B] (.ow 37 2 [rngP v0])) : SndA1 Tryz.prog 13 [.a [.l R1, .l R2], .a (cp c0), .l B] (.v (.t [.a [.n .i64 v0.1, .n .i64 v0.2], .b true])) := by
  refine kY (N := 60) tabOk mixed (OrL.ok (l := [(40, o_cr [.a [.l R1, .l R2], .l [cp c0]] (.v (.b true))), (41, o_cr [.a [.l R1, .l R2], .l B] (.v (.b true))), (42, o_cr [.a [.l R1, .l R2], .l [cp c0], .l B] (.ow 37 2 [rngP v0]))]) ⟨ok_cr hc, ok_cr hi, ok_cr hv, trivial⟩) ?_
  refine (tr_Value1 _ _ _ c0 v0).trans ?_
  simp only [g1_t, cond_true]
set_option maxRecDepth 100000 in
theorem tr_Holds2_0 (R1 R2 B : List (List PV)) (c0 c1 : Cn) : runK T (OrL.k [(40, o_cr [.a [.l R1, .l R2], .l [cp c0, cp c1]] (.v (.b false))), (41, o_cr [.a [.l R1, .l R2], .l B] (.v (.b true)))]) 60 19 [.a [.l R1, .l R2], .l [cp c0, cp c1], .l B] =
  bif (g1 [.a [.l R1, .l R2], .l [(cp c0), (cp c1)]]) then some (.v (.b false), [])
 else none := by kernel_rfl
set_option maxRecDepth 100000 in
theorem tr_Holds2 (R1 R2 B : List (List PV)) (c0 c1 : Cn) (v0 v1 : Int × Int) : runK T (OrL.k [(40, o_cr [.a [.l R1, .l R2], .l [cp c0, cp c1]] (.v (.b true))), (41, o_cr [.a [.l R1, .l R2], .l B] (.v (.b true))), (42, o_cr [.a [.l R1, .l R2], .l [cp c0, cp c1], .l B] (.ow 37 2 [rngP v0, rngP v1]))]) 60 19 [.a [.l R1, .l R2], .l [cp c0, cp c1], .l B] =
  bif (g1 [.a [.l R1, .l R2], .l [(cp c0), (cp c1)]]) then (bif (g1 [.a [.l R1, .l R2], .l B]) then (bif (g1 [.a [.l R1, .l R2], .l [(cp c0), (cp c1)], .l B]) then (bif (decide (v0.1 < c0.lo)) then some (.v (.b false), [])
 else bif (decide (c0.hi < v0.2)) then some (.v (.b false), [])
 else bif (decide (v1.1 < c1.lo)) then some (.v (.b false), [])
 else bif (decide (c1.hi < v1.2)) then some (.v (.b false), [])
 else some (.v (.b true), []))
 else none)
 else none)
 else none := by kernel_rfl
theorem snd_Holds2_0 {R1 R2 B : List (List PV)} (c0 c1 : Cn) (hc : SndA1 Tryz.prog 40 [.a [.l R1, .l R2], .l [cp c0, cp c1]] (.v (.b false))) (hi : SndA1 Tryz.prog 41 [.a [.l R1, .l R2], .l B] (.v (.b true))) : SndA1 Tryz.prog 19 [.a [.l R1, .l R2], .l [cp c0, cp c1], .l B] (.v (.b false)) := by
  refine kY (N := 60) tabOk mixed (OrL.ok (l := [(40, o_cr [.a [.l R1, .l R2], .l [cp c0, cp c1]] (.v (.b false))), (41, o_cr [.a [.l R1, .l R2], .l B] (.v (.b true)))]) ⟨ok_cr hc, ok_cr hi, trivial⟩) ?_
  refine (tr_Holds2_0 _ _ _ c0 c1).trans ?_
  simp only [g1_t, cond_true]
theorem snd_Holds2 {R1 R2 B : List (List PV)} (c0 c1 : Cn) (v0 v1 : Int × Int) (hc : SndA1 Tryz.prog 40 [.a [.l R1, .l R2], .l [cp c0, cp c1]] (.v (.b true))) (hi : SndA1 Tryz.prog 41 [.a [.l R1, .l R2], .l B] (.v (.b true))) (hv : SndA1 Tryz.prog 42 [.a [.l R1, .l R2], .l [cp c0, cp c1], .l B] (.ow 37 2 [rngP v0, rngP v1])) : SndA1 Tryz.prog 19 [.a [.l R1, .l R2], .l [cp c0, cp c1], .l B] (.v (.b (hld [c0, c1] [v0, v1]))) := by
  refine kY (N := 60) tabOk mixed (OrL.ok (l := [(40, o_cr [.a [.l R1, .l R2], .l [cp c0, cp c1]] (.v (.b true))), (41, o_cr [.a [.l R1, .l R2], .l B] (.v (.b true))), (42, o_cr [.a [.l R1, .l R2], .l [cp c0, cp c1], .l B] (.ow 37 2 [rngP v0, rngP v1]))]) ⟨ok_cr hc, ok_cr hi, ok_cr hv, trivial⟩) ?_
  refine (tr_Holds2 _ _ _ c0 c1 v0 v1).trans ?_
  simp only [g1_t, cond_true]
  simp only [hld]
  cases decide (v0.1 < c0.lo) <;> cases decide (c0.hi < v0.2) <;> cases decide (v1.1 < c1.lo) <;> cases decide (c1.hi < v1.2) <;> rfl
set_option maxRecDepth 100000 in
theorem tr_Broken2_0 (R1 R2 B : List (List PV)) (c0 c1 : Cn) : runK T (OrL.k [(40, o_cr [.a [.l R1, .l R2], .l [cp c0, cp c1]] (.v (.b false))), (41, o_cr [.a [.l R1, .l R2], .l B] (.v (.b true)))]) 60 18 [.a [.l R1, .l R2], .l [cp c0, cp c1], .l B] =
  bif (g1 [.a [.l R1, .l R2], .l [(cp c0), (cp c1)]]) then some (.v (.t [.n .i64 0, .b false]), [])
 else none := by kernel_rfl
set_option maxRecDepth 100000 in
theorem tr_Broken2 (R1 R2 B : List (List PV)) (c0 c1 : Cn) (v0 v1 : Int × Int) : runK T (OrL.k [(40, o_cr [.a [.l R1, .l R2], .l [cp c0, cp c1]] (.v (.b true))), (41, o_cr [.a [.l R1, .l R2], .l B] (.v (.b true))), (42, o_cr [.a [.l R1, .l R2], .l [cp c0, cp c1], .l B] (.ow 37 2 [rngP v0, rngP v1]))]) 60 18 [.a [.l R1, .l R2], .l [cp c0, cp c1], .l B] =
  bif (g1 [.a [.l R1, .l R2], .l [(cp c0), (cp c1)]]) then (bif (g1 [.a [.l R1, .l R2], .l B]) then (bif (g1 [.a [.l R1, .l R2], .l [(cp c0), (cp c1)], .l B]) then (bif (decide (v0.2 < c0.lo)) then some (.v (.t [.n .i64 0, .b true]), [])
 else bif (decide (c0.hi < v0.1)) then some (.v (.t [.n .i64 0, .b true]), [])
 else bif (decide (v1.2 < c1.lo)) then some (.v (.t [.n .i64 1, .b true]), [])
 else bif (decide (c1.hi < v1.1)) then some (.v (.t [.n .i64 1, .b true]), [])
 else some (.v (.t [.n .i64 0, .b false]), []))
 else none)
 else none)
 else none := by kernel_rfl
theorem snd_Broken2_0 {R1 R2 B : List (List PV)} (c0 c1 : Cn) (hc : SndA1 Tryz.prog 40 [.a [.l R1, .l R2], .l [cp c0, cp c1]] (.v (.b false))) (hi : SndA1 Tryz.prog 41 [.a [.l R1, .l R2], .l B] (.v (.b true))) : SndA1 Tryz.prog 18 [.a [.l R1, .l R2], .l [cp c0, cp c1], .l B] (.v (.t [.n .i64 0, .b false])) := by
  refine kY (N := 60) tabOk mixed (OrL.ok (l := [(40, o_cr [.a [.l R1, .l R2], .l [cp c0, cp c1]] (.v (.b false))), (41, o_cr [.a [.l R1, .l R2], .l B] (.v (.b true)))]) ⟨ok_cr hc, ok_cr hi, trivial⟩) ?_
  refine (tr_Broken2_0 _ _ _ c0 c1).trans ?_
  simp only [g1_t, cond_true]
def brI2 (c0 c1 : Cn) (v0 v1 : Int × Int) : Int := (bif (decide (v0.2 < c0.lo)) then 0 else (bif (decide (c0.hi < v0.1)) then 0 else (bif (decide (v1.2 < c1.lo)) then 1 else (bif (decide (c1.hi < v1.1)) then 1 else 0))))
theorem snd_Broken2 {R1 R2 B : List (List PV)} (c0 c1 : Cn) (v0 v1 : Int × Int) (hc : SndA1 Tryz.prog 40 [.a [.l R1, .l R2], .l [cp c0, cp c1]] (.v (.b true))) (hi : SndA1 Tryz.prog 41 [.a [.l R1, .l R2], .l B] (.v (.b true))) (hv : SndA1 Tryz.prog 42 [.a [.l R1, .l R2], .l [cp c0, cp c1], .l B] (.ow 37 2 [rngP v0, rngP v1])) : SndA1 Tryz.prog 18 [.a [.l R1, .l R2], .l [cp c0, cp c1], .l B] (.v (.t [.n .i64 (brI2 c0 c1 v0 v1), .b (brk [c0, c1] [v0, v1])])) := by
  refine kY (N := 60) tabOk mixed (OrL.ok (l := [(40, o_cr [.a [.l R1, .l R2], .l [cp c0, cp c1]] (.v (.b true))), (41, o_cr [.a [.l R1, .l R2], .l B] (.v (.b true))), (42, o_cr [.a [.l R1, .l R2], .l [cp c0, cp c1], .l B] (.ow 37 2 [rngP v0, rngP v1]))]) ⟨ok_cr hc, ok_cr hi, ok_cr hv, trivial⟩) ?_
  refine (tr_Broken2 _ _ _ c0 c1 v0 v1).trans ?_
  simp only [g1_t, cond_true]
  simp only [brk]
  unfold brI2
  cases decide (v0.2 < c0.lo) <;> cases decide (c0.hi < v0.1) <;> cases decide (v1.2 < c1.lo) <;> cases decide (c1.hi < v1.1) <;> rfl
set_option maxRecDepth 100000 in
theorem tr_Holds3_0 (R1 R2 B : List (List PV)) (c0 c1 c2 : Cn) : runK T (OrL.k [(40, o_cr [.a [.l R1, .l R2], .l [cp c0, cp c1, cp c2]] (.v (.b false))), (41, o_cr [.a [.l R1, .l R2], .l B] (.v (.b true)))]) 60 19 [.a [.l R1, .l R2], .l [cp c0, cp c1, cp c2], .l B] =
  bif (g1 [.a [.l R1, .l R2], .l [(cp c0), (cp c1), (cp c2)]]) then some (.v (.b false), [])
 else none := by kernel_rfl
set_option maxRecDepth 100000 in
theorem tr_Holds3 (R1 R2 B : List (List PV)) (c0 c1 c2 : Cn) (v0 v1 v2 : Int × Int) : runK T (OrL.k [(40, o_cr [.a [.l R1, .l R2], .l [cp c0, cp c1, cp c2]] (.v (.b true))), (41, o_cr [.a [.l R1, .l R2], .l B] (.v (.b true))), (42, o_cr [.a [.l R1, .l R2], .l [cp c0, cp c1, cp c2], .l B] (.ow 37 2 [rngP v0, rngP v1, rngP v2]))]) 60 19 [.a [.l R1, .l R2], .l [cp c0, cp c1, cp c2], .l B] =
  bif (g1 [.a [.l R1, .l R2], .l [(cp c0), (cp c1), (cp c2)]]) then (bif (g1 [.a [.l R1, .l R2], .l B]) then (bif (g1 [.a [.l R1, .l R2], .l [(cp c0), (cp c1), (cp c2)], .l B]) then (bif (decide (v0.1 < c0.lo)) then some (.v (.b false), [])
 else bif (decide (c0.hi < v0.2)) then some (.v (.b false), [])
 else bif (decide (v1.1 < c1.lo)) then some (.v (.b false), [])
 else bif (decide (c1.hi < v1.2)) then some (.v (.b false), [])
 else bif (decide (v2.1 < c2.lo)) then some (.v (.b false), [])
 else bif (decide (c2.hi < v2.2)) then some (.v (.b false), [])
 else some (.v (.b true), []))
 else none)
 else none)
 else none := by kernel_rfl
theorem snd_Holds3_0 {R1 R2 B : List (List PV)} (c0 c1 c2 : Cn) (hc : SndA1 Tryz.prog 40 [.a [.l R1, .l R2], .l [cp c0, cp c1, cp c2]] (.v (.b false))) (hi : SndA1 Tryz.prog 41 [.a [.l R1, .l R2], .l B] (.v (.b true))) : SndA1 Tryz.prog 19 [.a [.l R1, .l R2], .l [cp c0, cp c1, cp c2], .l B] (.v (.b false)) := by
  refine kY (N := 60) tabOk mixed (OrL.ok (l := [(40, o_cr [.a [.l R1, .l R2], .l [cp c0, cp c1, cp c2]] (.v (.b false))), (41, o_cr [.a [.l R1, .l R2], .l B] (.v (.b true)))]) ⟨ok_cr hc, ok_cr hi, trivial⟩) ?_
  refine (tr_Holds3_0 _ _ _ c0 c1 c2).trans ?_
  simp only [g1_t, cond_true]
theorem snd_Holds3 {R1 R2 B : List (List PV)} (c0 c1 c2 : Cn) (v0 v1 v2 : Int × Int) (hc : SndA1 Tryz.prog 40 [.a [.l R1, .l R2], .l [cp c0, cp c1, cp c2]] (.v (.b true))) (hi : SndA1 Tryz.prog 41 [.a [.l R1, .l R2], .l B] (.v (.b true))) (hv : SndA1 Tryz.prog 42 [.a [.l R1, .l R2], .l [cp c0, cp c1, cp c2], .l B] (.ow 37 2 [rngP v0, rngP v1, rngP v2])) : SndA1 Tryz.prog 19 [.a [.l R1, .l R2], .l [cp c0, cp c1, cp c2], .l B] (.v (.b (hld [c0, c1, c2] [v0, v1, v2]))) := by
  refine kY (N := 60) tabOk mixed (OrL.ok (l := [(40, o_cr [.a [.l R1, .l R2], .l [cp c0, cp c1, cp c2]] (.v (.b true))), (41, o_cr [.a [.l R1, .l R2], .l B] (.v (.b true))), (42, o_cr [.a [.l R1, .l R2], .l [cp c0, cp c1, cp c2], .l B] (.ow 37 2 [rngP v0, rngP v1, rngP v2]))]) ⟨ok_cr hc, ok_cr hi, ok_cr hv, trivial⟩) ?_
  refine (tr_Holds3 _ _ _ c0 c1 c2 v0 v1 v2).trans ?_
  simp only [g1_t, cond_true]
  simp only [hld]
  cases decide (v0.1 < c0.lo) <;> cases decide (c0.hi < v0.2) <;> cases decide (v1.1 < c1.lo) <;> cases decide (c1.hi < v1.2) <;> cases decide (v2.1 < c2.lo) <;> cases decide (c2.hi < v2.2) <;> rfl
set_option maxRecDepth 100000 in
theorem tr_Broken3_0 (R1 R2 B : List (List PV)) (c0 c1 c2 : Cn) : runK T (OrL.k [(40, o_cr [.a [.l R1, .l R2], .l [cp c0, cp c1, cp c2]] (.v (.b false))), (41, o_cr [.a [.l R1, .l R2], .l B] (.v (.b true)))]) 60 18 [.a [.l R1, .l R2], .l [cp c0, cp c1, cp c2], .l B] =
  bif (g1 [.a [.l R1, .l R2], .l [(cp c0), (cp c1), (cp c2)]]) then some (.v (.t [.n .i64 0, .b false]), [])
 else none := by kernel_rfl
set_option maxRecDepth 100000 in
theorem tr_Broken3 (R1 R2 B : List (List PV)) (c0 c1 c2 : Cn) (v0 v1 v2 : Int × Int) : runK T (OrL.k [(40, o_cr [.a [.l R1, .l R2], .l [cp c0, cp c1, cp c2]] (.v (.b true))), (41, o_cr [.a [.l R1, .l R2], .l B] (.v (.b true))), (42, o_cr [.a [.l R1, .l R2], .l [cp c0, cp c1, cp c2], .l B] (.ow 37 2 [rngP v0, rngP v1, rngP v2]))]) 60 18 [.a [.l R1, .l R2], .l [cp c0, cp c1, cp c2], .l B] =
  bif (g1 [.a [.l R1, .l R2], .l [(cp c0), (cp c1), (cp c2)]]) then (bif (g1 [.a [.l R1, .l R2], .l B]) then (bif (g1 [.a [.l R1, .l R2], .l [(cp c0), (cp c1), (cp c2)], .l B]) then (bif (decide (v0.2 < c0.lo)) then some (.v (.t [.n .i64 0, .b true]), [])
 else bif (decide (c0.hi < v0.1)) then some (.v (.t [.n .i64 0, .b true]), [])
 else bif (decide (v1.2 < c1.lo)) then some (.v (.t [.n .i64 1, .b true]), [])
 else bif (decide (c1.hi < v1.1)) then some (.v (.t [.n .i64 1, .b true]), [])
 else bif (decide (v2.2 < c2.lo)) then some (.v (.t [.n .i64 2, .b true]), [])
 else bif (decide (c2.hi < v2.1)) then some (.v (.t [.n .i64 2, .b true]), [])
 else some (.v (.t [.n .i64 0, .b false]), []))
 else none)
 else none)
 else none := by kernel_rfl
theorem snd_Broken3_0 {R1 R2 B : List (List PV)} (c0 c1 c2 : Cn) (hc : SndA1 Tryz.prog 40 [.a [.l R1, .l R2], .l [cp c0, cp c1, cp c2]] (.v (.b false))) (hi : SndA1 Tryz.prog 41 [.a [.l R1, .l R2], .l B] (.v (.b true))) : SndA1 Tryz.prog 18 [.a [.l R1, .l R2], .l [cp c0, cp c1, cp c2], .l B] (.v (.t [.n .i64 0, .b false])) := by
  refine kY (N := 60) tabOk mixed (OrL.ok (l := [(40, o_cr [.a [.l R1, .l R2], .l [cp c0, cp c1, cp c2]] (.v (.b false))), (41, o_cr [.a [.l R1, .l R2], .l B] (.v (.b true)))]) ⟨ok_cr hc, ok_cr hi, trivial⟩) ?_
  refine (tr_Broken3_0 _ _ _ c0 c1 c2).trans ?_
  simp only [g1_t, cond_true]
def brI3 (c0 c1 c2 : Cn) (v0 v1 v2 : Int × Int) : Int := (bif (decide (v0.2 < c0.lo)) then 0 else (bif (decide (c0.hi < v0.1)) then 0 else (bif (decide (v1.2 < c1.lo)) then 1 else (bif (decide (c1.hi < v1.1)) then 1 else (bif (decide (v2.2 < c2.lo)) then 2 else (bif (decide (c2.hi < v2.1)) then 2 else 0))))))
theorem snd_Broken3 {R1 R2 B : List (List PV)} (c0 c1 c2 : Cn) (v0 v1 v2 : Int × Int) (hc : SndA1 Tryz.prog 40 [.a [.l R1, .l R2], .l [cp c0, cp c1, cp c2]] (.v (.b true))) (hi : SndA1 Tryz.prog 41 [.a [.l R1, .l R2], .l B] (.v (.b true))) (hv : SndA1 Tryz.prog 42 [.a [.l R1, .l R2], .l [cp c0, cp c1, cp c2], .l B] (.ow 37 2 [rngP v0, rngP v1, rngP v2])) : SndA1 Tryz.prog 18 [.a [.l R1, .l R2], .l [cp c0, cp c1, cp c2], .l B] (.v (.t [.n .i64 (brI3 c0 c1 c2 v0 v1 v2), .b (brk [c0, c1, c2] [v0, v1, v2])])) := by
  refine kY (N := 60) tabOk mixed (OrL.ok (l := [(40, o_cr [.a [.l R1, .l R2], .l [cp c0, cp c1, cp c2]] (.v (.b true))), (41, o_cr [.a [.l R1, .l R2], .l B] (.v (.b true))), (42, o_cr [.a [.l R1, .l R2], .l [cp c0, cp c1, cp c2], .l B] (.ow 37 2 [rngP v0, rngP v1, rngP v2]))]) ⟨ok_cr hc, ok_cr hi, ok_cr hv, trivial⟩) ?_
  refine (tr_Broken3 _ _ _ c0 c1 c2 v0 v1 v2).trans ?_
  simp only [g1_t, cond_true]
  simp only [brk]
  unfold brI3
  cases decide (v0.2 < c0.lo) <;> cases decide (c0.hi < v0.1) <;> cases decide (v1.2 < c1.lo) <;> cases decide (c1.hi < v1.1) <;> cases decide (v2.2 < c2.lo) <;> cases decide (c2.hi < v2.1) <;> rfl
end Go.Proofs.YtnlnbnjnapofmaaGreat.Mh
namespace Go.Proofs.YtnlnbnjnapofmaaGreat.Mx
open Go.Rx Rt Go.Sx Go.RowKit
open Od Ov Ow Mw Mv Mh
noncomputable def o_cb (as_ : List PV) (B1 B2 : PV) (r : PV → Ret) : List PV → Option (Bool × Ret) := fun ps => match ps with
  | [x, y, b] => some (gEq (.t [x, y]) (.t as_) && (gEq b B1 || gEq b B2), r b)
  | _ => none
theorem ok_cb {f : Nat} {x y B1 B2 : PV} {r : PV → Ret} (h1 : SndA1 Tryz.prog f [x, y, B1] (r B1)) (h2 : SndA1 Tryz.prog f [x, y, B2] (r B2)) : OneOk Tryz.prog f (o_cb [x, y] B1 B2 r) := by
  intro ps q hh
  unfold o_cb at hh
  split at hh
  · simp only [Option.some.injEq, Prod.mk.injEq, Bool.and_eq_true, Bool.or_eq_true] at hh
    obtain ⟨⟨hg, hb⟩, rfl⟩ := hh
    have := gEq_eq hg
    simp only [PV.t.injEq, List.cons.injEq, and_true] at this
    obtain ⟨rfl, rfl⟩ := this
    rcases hb with hb | hb
    · obtain rfl := gEq_eq hb
      exact h1
    · obtain rfl := gEq_eq hb
      exact h2
  · cases hh
set_option maxRecDepth 100000 in
theorem tr_law1 (L M O W A B R1 R2 : List (List PV)) (q u : Int) (c0 : Cn) (vlo vhi bi : PV → Int) (g br hd : PV → Bool) : runK T (OrL.k [(10, o_cr [.l L] (.v (.a [.l R1, .l R2]))), (16, o_cr [.n .i64 q, .n .i64 3] (.v (.n .i64 u))), (15, o_cr [.a [.l R1, .l R2], .n .i64 (IntKind.i64.wrap (1 + u)), .l M] (.ow 31 10 [cp c0])), (12, o_cr [.a [.l R1, .l R2], .l O] (.v (.l B))), (17, o_cr [.l B, .l W] (.v (.l A))), (13, o_cb [.a [.l R1, .l R2], .a (cp c0)] (.l B) (.l A) (fun b => .v (.t [.a [.n .i64 (vlo b), .n .i64 (vhi b)], .b (g b)]))), (18, o_cb [.a [.l R1, .l R2], .l [cp c0]] (.l B) (.l A) (fun b => .v (.t [.n .i64 (bi b), .b (br b)]))), (19, o_cb [.a [.l R1, .l R2], .l [cp c0]] (.l B) (.l A) (fun b => .v (.b (hd b)))), (14, o_cr [] (.v (.b true)))]) 60 4 [.l L, .l M, .l O, .l W, .n .i64 q] =
  bif (g1 [.l L]) then (bif (g1 [.n .i64 q, .n .i64 3]) then (bif (g1 [.a [.l R1, .l R2], .n .i64 (IntKind.i64.wrap (1 + u)), .l M]) then (bif (g1 [.a [.l R1, .l R2], .l O]) then (bif (g1 [.l B, .l W]) then (bif (g2 [.a [.l R1, .l R2], .a (cp c0)] (.l B) (.l A) (.l B)) then (bif (g (.l B)) then (bif (g2 [.a [.l R1, .l R2], .a (cp c0)] (.l B) (.l A) (.l A)) then (bif (g (.l A)) then (bif (decide ((vlo (.l A)) < (vlo (.l B)))) then some (.v (.b false), [])
 else bif (decide ((vhi (.l B)) < (vhi (.l A)))) then some (.v (.b false), [])
 else bif (decide ((vhi (.l B)) < (vlo (.l B)))) then some (.v (.b false), [])
 else bif (g2 [.a [.l R1, .l R2], .l [(cp c0)]] (.l B) (.l A) (.l B)) then (bif (br (.l B)) then (bif (g2 [.a [.l R1, .l R2], .l [(cp c0)]] (.l B) (.l A) (.l A)) then (bif (br (.l A)) then (bif (g1 []) then (bif (g2 [.a [.l R1, .l R2], .l [(cp c0)]] (.l B) (.l A) (.l B)) then (bif (hd (.l B)) then (bif (g2 [.a [.l R1, .l R2], .l [(cp c0)]] (.l B) (.l A) (.l A)) then (bif (hd (.l A)) then (bif (g2 [.a [.l R1, .l R2], .l [(cp c0)]] (.l B) (.l A) (.l B)) then (bif (hd (.l B)) then some (.v (.b false), [])
 else some (.v (.b true), []))
 else none)
 else some (.v (.b false), []))
 else none)
 else bif (g2 [.a [.l R1, .l R2], .l [(cp c0)]] (.l B) (.l A) (.l B)) then (bif (hd (.l B)) then some (.v (.b false), [])
 else some (.v (.b true), []))
 else none)
 else none)
 else none)
 else bif (g1 []) then (bif (g2 [.a [.l R1, .l R2], .l [(cp c0)]] (.l B) (.l A) (.l B)) then (bif (hd (.l B)) then (bif (g2 [.a [.l R1, .l R2], .l [(cp c0)]] (.l B) (.l A) (.l A)) then (bif (hd (.l A)) then some (.v (.b false), [])
 else some (.v (.b false), []))
 else none)
 else some (.v (.b false), []))
 else none)
 else none)
 else none)
 else bif (g2 [.a [.l R1, .l R2], .l [(cp c0)]] (.l B) (.l A) (.l A)) then (bif (br (.l A)) then (bif (g1 []) then (bif (g2 [.a [.l R1, .l R2], .l [(cp c0)]] (.l B) (.l A) (.l B)) then (bif (hd (.l B)) then (bif (g2 [.a [.l R1, .l R2], .l [(cp c0)]] (.l B) (.l A) (.l A)) then (bif (hd (.l A)) then some (.v (.b true), [])
 else some (.v (.b false), []))
 else none)
 else some (.v (.b true), []))
 else none)
 else none)
 else bif (g1 []) then (bif (g2 [.a [.l R1, .l R2], .l [(cp c0)]] (.l B) (.l A) (.l B)) then (bif (hd (.l B)) then (bif (g2 [.a [.l R1, .l R2], .l [(cp c0)]] (.l B) (.l A) (.l A)) then (bif (hd (.l A)) then some (.v (.b true), [])
 else some (.v (.b false), []))
 else none)
 else some (.v (.b true), []))
 else none)
 else none)
 else none)
 else none)
 else some (.v (.b false), []))
 else none)
 else bif (g2 [.a [.l R1, .l R2], .a (cp c0)] (.l B) (.l A) (.l A)) then (bif (g (.l A)) then some (.v (.b false), [])
 else bif (g2 [.a [.l R1, .l R2], .l [(cp c0)]] (.l B) (.l A) (.l B)) then (bif (br (.l B)) then (bif (g2 [.a [.l R1, .l R2], .l [(cp c0)]] (.l B) (.l A) (.l A)) then (bif (br (.l A)) then (bif (g1 []) then (bif (g2 [.a [.l R1, .l R2], .l [(cp c0)]] (.l B) (.l A) (.l B)) then (bif (hd (.l B)) then (bif (g2 [.a [.l R1, .l R2], .l [(cp c0)]] (.l B) (.l A) (.l A)) then (bif (hd (.l A)) then (bif (g2 [.a [.l R1, .l R2], .l [(cp c0)]] (.l B) (.l A) (.l B)) then (bif (hd (.l B)) then some (.v (.b false), [])
 else some (.v (.b true), []))
 else none)
 else some (.v (.b false), []))
 else none)
 else bif (g2 [.a [.l R1, .l R2], .l [(cp c0)]] (.l B) (.l A) (.l B)) then (bif (hd (.l B)) then some (.v (.b false), [])
 else some (.v (.b true), []))
 else none)
 else none)
 else none)
 else bif (g1 []) then (bif (g2 [.a [.l R1, .l R2], .l [(cp c0)]] (.l B) (.l A) (.l B)) then (bif (hd (.l B)) then (bif (g2 [.a [.l R1, .l R2], .l [(cp c0)]] (.l B) (.l A) (.l A)) then (bif (hd (.l A)) then some (.v (.b false), [])
 else some (.v (.b false), []))
 else none)
 else some (.v (.b false), []))
 else none)
 else none)
 else none)
 else bif (g2 [.a [.l R1, .l R2], .l [(cp c0)]] (.l B) (.l A) (.l A)) then (bif (br (.l A)) then (bif (g1 []) then (bif (g2 [.a [.l R1, .l R2], .l [(cp c0)]] (.l B) (.l A) (.l B)) then (bif (hd (.l B)) then (bif (g2 [.a [.l R1, .l R2], .l [(cp c0)]] (.l B) (.l A) (.l A)) then (bif (hd (.l A)) then some (.v (.b true), [])
 else some (.v (.b false), []))
 else none)
 else some (.v (.b true), []))
 else none)
 else none)
 else bif (g1 []) then (bif (g2 [.a [.l R1, .l R2], .l [(cp c0)]] (.l B) (.l A) (.l B)) then (bif (hd (.l B)) then (bif (g2 [.a [.l R1, .l R2], .l [(cp c0)]] (.l B) (.l A) (.l A)) then (bif (hd (.l A)) then some (.v (.b true), [])
 else some (.v (.b false), []))
 else none)
 else some (.v (.b true), []))
 else none)
 else none)
 else none)
 else none)
 else none)
 else none)
 else none)
 else none)
 else none)
 else none)
 else none := by kernel_rfl
theorem sp_law1 (L M O W A B R1 R2 : List (List PV)) (q u : Int) (c0 : Cn) (vlo vhi bi : PV → Int) (g br hd : PV → Bool) (hg : g (.l A) = g (.l B)) (h1 : g (.l B) = true → vlo (.l B) ≤ vlo (.l A)) (h2 : g (.l B) = true → vhi (.l A) ≤ vhi (.l B)) (h3 : g (.l B) = true → vlo (.l B) ≤ vhi (.l B))
    (h4 : hd (.l B) = true → hd (.l A) = true) (h5 : br (.l B) = true → br (.l A) = true) (h6 : br (.l B) = true → hd (.l B) = false) : runK T (OrL.k [(10, o_cr [.l L] (.v (.a [.l R1, .l R2]))), (16, o_cr [.n .i64 q, .n .i64 3] (.v (.n .i64 u))), (15, o_cr [.a [.l R1, .l R2], .n .i64 (IntKind.i64.wrap (1 + u)), .l M] (.ow 31 10 [cp c0])), (12, o_cr [.a [.l R1, .l R2], .l O] (.v (.l B))), (17, o_cr [.l B, .l W] (.v (.l A))), (13, o_cb [.a [.l R1, .l R2], .a (cp c0)] (.l B) (.l A) (fun b => .v (.t [.a [.n .i64 (vlo b), .n .i64 (vhi b)], .b (g b)]))), (18, o_cb [.a [.l R1, .l R2], .l [cp c0]] (.l B) (.l A) (fun b => .v (.t [.n .i64 (bi b), .b (br b)]))), (19, o_cb [.a [.l R1, .l R2], .l [cp c0]] (.l B) (.l A) (fun b => .v (.b (hd b)))), (14, o_cr [] (.v (.b true)))]) 60 4 [.l L, .l M, .l O, .l W, .n .i64 q] = some (.v (.b true), []) := by
  rw [tr_law1]
  simp only [g1_t, g2_1, g2_2, cond_true, hg]
  generalize vlo (.l A) = x1 at *
  generalize vlo (.l B) = x2 at *
  generalize vhi (.l A) = x3 at *
  generalize vhi (.l B) = x4 at *
  cases hgb : g (.l B) <;> cases hhb : hd (.l B) <;> cases hha : hd (.l A) <;> cases hbb : br (.l B) <;> cases hba : br (.l A) <;> simp_all
  all_goals simp only [decide_eq_false (show ¬ x1 < x2 by omega), decide_eq_false (show ¬ x4 < x3 by omega), decide_eq_false (show ¬ x4 < x2 by omega), cond_false]
set_option maxRecDepth 100000 in
theorem tr_law2 (L M O W A B R1 R2 : List (List PV)) (q u : Int) (c0 c1 : Cn) (vlo vhi bi : PV → Int) (g br hd : PV → Bool) : runK T (OrL.k [(10, o_cr [.l L] (.v (.a [.l R1, .l R2]))), (16, o_cr [.n .i64 q, .n .i64 3] (.v (.n .i64 u))), (15, o_cr [.a [.l R1, .l R2], .n .i64 (IntKind.i64.wrap (1 + u)), .l M] (.ow 31 10 [cp c0, cp c1])), (12, o_cr [.a [.l R1, .l R2], .l O] (.v (.l B))), (17, o_cr [.l B, .l W] (.v (.l A))), (13, o_cb [.a [.l R1, .l R2], .a (cp c0)] (.l B) (.l A) (fun b => .v (.t [.a [.n .i64 (vlo b), .n .i64 (vhi b)], .b (g b)]))), (18, o_cb [.a [.l R1, .l R2], .l [cp c0, cp c1]] (.l B) (.l A) (fun b => .v (.t [.n .i64 (bi b), .b (br b)]))), (19, o_cb [.a [.l R1, .l R2], .l [cp c0, cp c1]] (.l B) (.l A) (fun b => .v (.b (hd b)))), (14, o_cr [] (.v (.b true)))]) 60 4 [.l L, .l M, .l O, .l W, .n .i64 q] =
  bif (g1 [.l L]) then (bif (g1 [.n .i64 q, .n .i64 3]) then (bif (g1 [.a [.l R1, .l R2], .n .i64 (IntKind.i64.wrap (1 + u)), .l M]) then (bif (g1 [.a [.l R1, .l R2], .l O]) then (bif (g1 [.l B, .l W]) then (bif (g2 [.a [.l R1, .l R2], .a (cp c0)] (.l B) (.l A) (.l B)) then (bif (g (.l B)) then (bif (g2 [.a [.l R1, .l R2], .a (cp c0)] (.l B) (.l A) (.l A)) then (bif (g (.l A)) then (bif (decide ((vlo (.l A)) < (vlo (.l B)))) then some (.v (.b false), [])
 else bif (decide ((vhi (.l B)) < (vhi (.l A)))) then some (.v (.b false), [])
 else bif (decide ((vhi (.l B)) < (vlo (.l B)))) then some (.v (.b false), [])
 else bif (g2 [.a [.l R1, .l R2], .l [(cp c0), (cp c1)]] (.l B) (.l A) (.l B)) then (bif (br (.l B)) then (bif (g2 [.a [.l R1, .l R2], .l [(cp c0), (cp c1)]] (.l B) (.l A) (.l A)) then (bif (br (.l A)) then (bif (g1 []) then (bif (g2 [.a [.l R1, .l R2], .l [(cp c0), (cp c1)]] (.l B) (.l A) (.l B)) then (bif (hd (.l B)) then (bif (g2 [.a [.l R1, .l R2], .l [(cp c0), (cp c1)]] (.l B) (.l A) (.l A)) then (bif (hd (.l A)) then (bif (g2 [.a [.l R1, .l R2], .l [(cp c0), (cp c1)]] (.l B) (.l A) (.l B)) then (bif (hd (.l B)) then some (.v (.b false), [])
 else some (.v (.b true), []))
 else none)
 else some (.v (.b false), []))
 else none)
 else bif (g2 [.a [.l R1, .l R2], .l [(cp c0), (cp c1)]] (.l B) (.l A) (.l B)) then (bif (hd (.l B)) then some (.v (.b false), [])
 else some (.v (.b true), []))
 else none)
 else none)
 else none)
 else bif (g1 []) then (bif (g2 [.a [.l R1, .l R2], .l [(cp c0), (cp c1)]] (.l B) (.l A) (.l B)) then (bif (hd (.l B)) then (bif (g2 [.a [.l R1, .l R2], .l [(cp c0), (cp c1)]] (.l B) (.l A) (.l A)) then (bif (hd (.l A)) then some (.v (.b false), [])
 else some (.v (.b false), []))
 else none)
 else some (.v (.b false), []))
 else none)
 else none)
 else none)
 else bif (g2 [.a [.l R1, .l R2], .l [(cp c0), (cp c1)]] (.l B) (.l A) (.l A)) then (bif (br (.l A)) then (bif (g1 []) then (bif (g2 [.a [.l R1, .l R2], .l [(cp c0), (cp c1)]] (.l B) (.l A) (.l B)) then (bif (hd (.l B)) then (bif (g2 [.a [.l R1, .l R2], .l [(cp c0), (cp c1)]] (.l B) (.l A) (.l A)) then (bif (hd (.l A)) then some (.v (.b true), [])
 else some (.v (.b false), []))
 else none)
 else some (.v (.b true), []))
 else none)
 else none)
 else bif (g1 []) then (bif (g2 [.a [.l R1, .l R2], .l [(cp c0), (cp c1)]] (.l B) (.l A) (.l B)) then (bif (hd (.l B)) then (bif (g2 [.a [.l R1, .l R2], .l [(cp c0), (cp c1)]] (.l B) (.l A) (.l A)) then (bif (hd (.l A)) then some (.v (.b true), [])
 else some (.v (.b false), []))
 else none)
 else some (.v (.b true), []))
 else none)
 else none)
 else none)
 else none)
 else some (.v (.b false), []))
 else none)
 else bif (g2 [.a [.l R1, .l R2], .a (cp c0)] (.l B) (.l A) (.l A)) then (bif (g (.l A)) then some (.v (.b false), [])
 else bif (g2 [.a [.l R1, .l R2], .l [(cp c0), (cp c1)]] (.l B) (.l A) (.l B)) then (bif (br (.l B)) then (bif (g2 [.a [.l R1, .l R2], .l [(cp c0), (cp c1)]] (.l B) (.l A) (.l A)) then (bif (br (.l A)) then (bif (g1 []) then (bif (g2 [.a [.l R1, .l R2], .l [(cp c0), (cp c1)]] (.l B) (.l A) (.l B)) then (bif (hd (.l B)) then (bif (g2 [.a [.l R1, .l R2], .l [(cp c0), (cp c1)]] (.l B) (.l A) (.l A)) then (bif (hd (.l A)) then (bif (g2 [.a [.l R1, .l R2], .l [(cp c0), (cp c1)]] (.l B) (.l A) (.l B)) then (bif (hd (.l B)) then some (.v (.b false), [])
 else some (.v (.b true), []))
 else none)
 else some (.v (.b false), []))
 else none)
 else bif (g2 [.a [.l R1, .l R2], .l [(cp c0), (cp c1)]] (.l B) (.l A) (.l B)) then (bif (hd (.l B)) then some (.v (.b false), [])
 else some (.v (.b true), []))
 else none)
 else none)
 else none)
 else bif (g1 []) then (bif (g2 [.a [.l R1, .l R2], .l [(cp c0), (cp c1)]] (.l B) (.l A) (.l B)) then (bif (hd (.l B)) then (bif (g2 [.a [.l R1, .l R2], .l [(cp c0), (cp c1)]] (.l B) (.l A) (.l A)) then (bif (hd (.l A)) then some (.v (.b false), [])
 else some (.v (.b false), []))
 else none)
 else some (.v (.b false), []))
 else none)
 else none)
 else none)
 else bif (g2 [.a [.l R1, .l R2], .l [(cp c0), (cp c1)]] (.l B) (.l A) (.l A)) then (bif (br (.l A)) then (bif (g1 []) then (bif (g2 [.a [.l R1, .l R2], .l [(cp c0), (cp c1)]] (.l B) (.l A) (.l B)) then (bif (hd (.l B)) then (bif (g2 [.a [.l R1, .l R2], .l [(cp c0), (cp c1)]] (.l B) (.l A) (.l A)) then (bif (hd (.l A)) then some (.v (.b true), [])
 else some (.v (.b false), []))
 else none)
 else some (.v (.b true), []))
 else none)
 else none)
 else bif (g1 []) then (bif (g2 [.a [.l R1, .l R2], .l [(cp c0), (cp c1)]] (.l B) (.l A) (.l B)) then (bif (hd (.l B)) then (bif (g2 [.a [.l R1, .l R2], .l [(cp c0), (cp c1)]] (.l B) (.l A) (.l A)) then (bif (hd (.l A)) then some (.v (.b true), [])
 else some (.v (.b false), []))
 else none)
 else some (.v (.b true), []))
 else none)
 else none)
 else none)
 else none)
 else none)
 else none)
 else none)
 else none)
 else none)
 else none)
 else none := by kernel_rfl
theorem sp_law2 (L M O W A B R1 R2 : List (List PV)) (q u : Int) (c0 c1 : Cn) (vlo vhi bi : PV → Int) (g br hd : PV → Bool) (hg : g (.l A) = g (.l B)) (h1 : g (.l B) = true → vlo (.l B) ≤ vlo (.l A)) (h2 : g (.l B) = true → vhi (.l A) ≤ vhi (.l B)) (h3 : g (.l B) = true → vlo (.l B) ≤ vhi (.l B))
    (h4 : hd (.l B) = true → hd (.l A) = true) (h5 : br (.l B) = true → br (.l A) = true) (h6 : br (.l B) = true → hd (.l B) = false) : runK T (OrL.k [(10, o_cr [.l L] (.v (.a [.l R1, .l R2]))), (16, o_cr [.n .i64 q, .n .i64 3] (.v (.n .i64 u))), (15, o_cr [.a [.l R1, .l R2], .n .i64 (IntKind.i64.wrap (1 + u)), .l M] (.ow 31 10 [cp c0, cp c1])), (12, o_cr [.a [.l R1, .l R2], .l O] (.v (.l B))), (17, o_cr [.l B, .l W] (.v (.l A))), (13, o_cb [.a [.l R1, .l R2], .a (cp c0)] (.l B) (.l A) (fun b => .v (.t [.a [.n .i64 (vlo b), .n .i64 (vhi b)], .b (g b)]))), (18, o_cb [.a [.l R1, .l R2], .l [cp c0, cp c1]] (.l B) (.l A) (fun b => .v (.t [.n .i64 (bi b), .b (br b)]))), (19, o_cb [.a [.l R1, .l R2], .l [cp c0, cp c1]] (.l B) (.l A) (fun b => .v (.b (hd b)))), (14, o_cr [] (.v (.b true)))]) 60 4 [.l L, .l M, .l O, .l W, .n .i64 q] = some (.v (.b true), []) := by
  rw [tr_law2]
  simp only [g1_t, g2_1, g2_2, cond_true, hg]
  generalize vlo (.l A) = x1 at *
  generalize vlo (.l B) = x2 at *
  generalize vhi (.l A) = x3 at *
  generalize vhi (.l B) = x4 at *
  cases hgb : g (.l B) <;> cases hhb : hd (.l B) <;> cases hha : hd (.l A) <;> cases hbb : br (.l B) <;> cases hba : br (.l A) <;> simp_all
  all_goals simp only [decide_eq_false (show ¬ x1 < x2 by omega), decide_eq_false (show ¬ x4 < x3 by omega), decide_eq_false (show ¬ x4 < x2 by omega), cond_false]
set_option maxRecDepth 100000 in
theorem tr_law3 (L M O W A B R1 R2 : List (List PV)) (q u : Int) (c0 c1 c2 : Cn) (vlo vhi bi : PV → Int) (g br hd : PV → Bool) : runK T (OrL.k [(10, o_cr [.l L] (.v (.a [.l R1, .l R2]))), (16, o_cr [.n .i64 q, .n .i64 3] (.v (.n .i64 u))), (15, o_cr [.a [.l R1, .l R2], .n .i64 (IntKind.i64.wrap (1 + u)), .l M] (.ow 31 10 [cp c0, cp c1, cp c2])), (12, o_cr [.a [.l R1, .l R2], .l O] (.v (.l B))), (17, o_cr [.l B, .l W] (.v (.l A))), (13, o_cb [.a [.l R1, .l R2], .a (cp c0)] (.l B) (.l A) (fun b => .v (.t [.a [.n .i64 (vlo b), .n .i64 (vhi b)], .b (g b)]))), (18, o_cb [.a [.l R1, .l R2], .l [cp c0, cp c1, cp c2]] (.l B) (.l A) (fun b => .v (.t [.n .i64 (bi b), .b (br b)]))), (19, o_cb [.a [.l R1, .l R2], .l [cp c0, cp c1, cp c2]] (.l B) (.l A) (fun b => .v (.b (hd b)))), (14, o_cr [] (.v (.b true)))]) 60 4 [.l L, .l M, .l O, .l W, .n .i64 q] =
  bif (g1 [.l L]) then (bif (g1 [.n .i64 q, .n .i64 3]) then (bif (g1 [.a [.l R1, .l R2], .n .i64 (IntKind.i64.wrap (1 + u)), .l M]) then (bif (g1 [.a [.l R1, .l R2], .l O]) then (bif (g1 [.l B, .l W]) then (bif (g2 [.a [.l R1, .l R2], .a (cp c0)] (.l B) (.l A) (.l B)) then (bif (g (.l B)) then (bif (g2 [.a [.l R1, .l R2], .a (cp c0)] (.l B) (.l A) (.l A)) then (bif (g (.l A)) then (bif (decide ((vlo (.l A)) < (vlo (.l B)))) then some (.v (.b false), [])
 else bif (decide ((vhi (.l B)) < (vhi (.l A)))) then some (.v (.b false), [])
 else bif (decide ((vhi (.l B)) < (vlo (.l B)))) then some (.v (.b false), [])
 else bif (g2 [.a [.l R1, .l R2], .l [(cp c0), (cp c1), (cp c2)]] (.l B) (.l A) (.l B)) then (bif (br (.l B)) then (bif (g2 [.a [.l R1, .l R2], .l [(cp c0), (cp c1), (cp c2)]] (.l B) (.l A) (.l A)) then (bif (br (.l A)) then (bif (g1 []) then (bif (g2 [.a [.l R1, .l R2], .l [(cp c0), (cp c1), (cp c2)]] (.l B) (.l A) (.l B)) then (bif (hd (.l B)) then (bif (g2 [.a [.l R1, .l R2], .l [(cp c0), (cp c1), (cp c2)]] (.l B) (.l A) (.l A)) then (bif (hd (.l A)) then (bif (g2 [.a [.l R1, .l R2], .l [(cp c0), (cp c1), (cp c2)]] (.l B) (.l A) (.l B)) then (bif (hd (.l B)) then some (.v (.b false), [])
 else some (.v (.b true), []))
 else none)
 else some (.v (.b false), []))
 else none)
 else bif (g2 [.a [.l R1, .l R2], .l [(cp c0), (cp c1), (cp c2)]] (.l B) (.l A) (.l B)) then (bif (hd (.l B)) then some (.v (.b false), [])
 else some (.v (.b true), []))
 else none)
 else none)
 else none)
 else bif (g1 []) then (bif (g2 [.a [.l R1, .l R2], .l [(cp c0), (cp c1), (cp c2)]] (.l B) (.l A) (.l B)) then (bif (hd (.l B)) then (bif (g2 [.a [.l R1, .l R2], .l [(cp c0), (cp c1), (cp c2)]] (.l B) (.l A) (.l A)) then (bif (hd (.l A)) then some (.v (.b false), [])
 else some (.v (.b false), []))
 else none)
 else some (.v (.b false), []))
 else none)
 else none)
 else none)
 else bif (g2 [.a [.l R1, .l R2], .l [(cp c0), (cp c1), (cp c2)]] (.l B) (.l A) (.l A)) then (bif (br (.l A)) then (bif (g1 []) then (bif (g2 [.a [.l R1, .l R2], .l [(cp c0), (cp c1), (cp c2)]] (.l B) (.l A) (.l B)) then (bif (hd (.l B)) then (bif (g2 [.a [.l R1, .l R2], .l [(cp c0), (cp c1), (cp c2)]] (.l B) (.l A) (.l A)) then (bif (hd (.l A)) then some (.v (.b true), [])
 else some (.v (.b false), []))
 else none)
 else some (.v (.b true), []))
 else none)
 else none)
 else bif (g1 []) then (bif (g2 [.a [.l R1, .l R2], .l [(cp c0), (cp c1), (cp c2)]] (.l B) (.l A) (.l B)) then (bif (hd (.l B)) then (bif (g2 [.a [.l R1, .l R2], .l [(cp c0), (cp c1), (cp c2)]] (.l B) (.l A) (.l A)) then (bif (hd (.l A)) then some (.v (.b true), [])
 else some (.v (.b false), []))
 else none)
 else some (.v (.b true), []))
 else none)
 else none)
 else none)
 else none)
 else some (.v (.b false), []))
 else none)
 else bif (g2 [.a [.l R1, .l R2], .a (cp c0)] (.l B) (.l A) (.l A)) then (bif (g (.l A)) then some (.v (.b false), [])
 else bif (g2 [.a [.l R1, .l R2], .l [(cp c0), (cp c1), (cp c2)]] (.l B) (.l A) (.l B)) then (bif (br (.l B)) then (bif (g2 [.a [.l R1, .l R2], .l [(cp c0), (cp c1), (cp c2)]] (.l B) (.l A) (.l A)) then (bif (br (.l A)) then (bif (g1 []) then (bif (g2 [.a [.l R1, .l R2], .l [(cp c0), (cp c1), (cp c2)]] (.l B) (.l A) (.l B)) then (bif (hd (.l B)) then (bif (g2 [.a [.l R1, .l R2], .l [(cp c0), (cp c1), (cp c2)]] (.l B) (.l A) (.l A)) then (bif (hd (.l A)) then (bif (g2 [.a [.l R1, .l R2], .l [(cp c0), (cp c1), (cp c2)]] (.l B) (.l A) (.l B)) then (bif (hd (.l B)) then some (.v (.b false), [])
 else some (.v (.b true), []))
 else none)
 else some (.v (.b false), []))
 else none)
 else bif (g2 [.a [.l R1, .l R2], .l [(cp c0), (cp c1), (cp c2)]] (.l B) (.l A) (.l B)) then (bif (hd (.l B)) then some (.v (.b false), [])
 else some (.v (.b true), []))
 else none)
 else none)
 else none)
 else bif (g1 []) then (bif (g2 [.a [.l R1, .l R2], .l [(cp c0), (cp c1), (cp c2)]] (.l B) (.l A) (.l B)) then (bif (hd (.l B)) then (bif (g2 [.a [.l R1, .l R2], .l [(cp c0), (cp c1), (cp c2)]] (.l B) (.l A) (.l A)) then (bif (hd (.l A)) then some (.v (.b false), [])
 else some (.v (.b false), []))
 else none)
 else some (.v (.b false), []))
 else none)
 else none)
 else none)
 else bif (g2 [.a [.l R1, .l R2], .l [(cp c0), (cp c1), (cp c2)]] (.l B) (.l A) (.l A)) then (bif (br (.l A)) then (bif (g1 []) then (bif (g2 [.a [.l R1, .l R2], .l [(cp c0), (cp c1), (cp c2)]] (.l B) (.l A) (.l B)) then (bif (hd (.l B)) then (bif (g2 [.a [.l R1, .l R2], .l [(cp c0), (cp c1), (cp c2)]] (.l B) (.l A) (.l A)) then (bif (hd (.l A)) then some (.v (.b true), [])
 else some (.v (.b false), []))
 else none)
 else some (.v (.b true), []))
 else none)
 else none)
 else bif (g1 []) then (bif (g2 [.a [.l R1, .l R2], .l [(cp c0), (cp c1), (cp c2)]] (.l B) (.l A) (.l B)) then (bif (hd (.l B)) then (bif (g2 [.a [.l R1, .l R2], .l [(cp c0), (cp c1), (cp c2)]] (.l B) (.l A) (.l A)) then (bif (hd (.l A)) then some (.v (.b true), [])
 else some (.v (.b false), []))
 else none)
 else some (.v (.b true), []))
 else none)
 else none)
 else none)
 else none)
 else none)
 else none)
 else none)
 else none)
 else none)
 else none)
 else none := by kernel_rfl
theorem sp_law3 (L M O W A B R1 R2 : List (List PV)) (q u : Int) (c0 c1 c2 : Cn) (vlo vhi bi : PV → Int) (g br hd : PV → Bool) (hg : g (.l A) = g (.l B)) (h1 : g (.l B) = true → vlo (.l B) ≤ vlo (.l A)) (h2 : g (.l B) = true → vhi (.l A) ≤ vhi (.l B)) (h3 : g (.l B) = true → vlo (.l B) ≤ vhi (.l B))
    (h4 : hd (.l B) = true → hd (.l A) = true) (h5 : br (.l B) = true → br (.l A) = true) (h6 : br (.l B) = true → hd (.l B) = false) : runK T (OrL.k [(10, o_cr [.l L] (.v (.a [.l R1, .l R2]))), (16, o_cr [.n .i64 q, .n .i64 3] (.v (.n .i64 u))), (15, o_cr [.a [.l R1, .l R2], .n .i64 (IntKind.i64.wrap (1 + u)), .l M] (.ow 31 10 [cp c0, cp c1, cp c2])), (12, o_cr [.a [.l R1, .l R2], .l O] (.v (.l B))), (17, o_cr [.l B, .l W] (.v (.l A))), (13, o_cb [.a [.l R1, .l R2], .a (cp c0)] (.l B) (.l A) (fun b => .v (.t [.a [.n .i64 (vlo b), .n .i64 (vhi b)], .b (g b)]))), (18, o_cb [.a [.l R1, .l R2], .l [cp c0, cp c1, cp c2]] (.l B) (.l A) (fun b => .v (.t [.n .i64 (bi b), .b (br b)]))), (19, o_cb [.a [.l R1, .l R2], .l [cp c0, cp c1, cp c2]] (.l B) (.l A) (fun b => .v (.b (hd b)))), (14, o_cr [] (.v (.b true)))]) 60 4 [.l L, .l M, .l O, .l W, .n .i64 q] = some (.v (.b true), []) := by
  rw [tr_law3]
  simp only [g1_t, g2_1, g2_2, cond_true, hg]
  generalize vlo (.l A) = x1 at *
  generalize vlo (.l B) = x2 at *
  generalize vhi (.l A) = x3 at *
  generalize vhi (.l B) = x4 at *
  cases hgb : g (.l B) <;> cases hhb : hd (.l B) <;> cases hha : hd (.l A) <;> cases hbb : br (.l B) <;> cases hba : br (.l A) <;> simp_all
  all_goals simp only [decide_eq_false (show ¬ x1 < x2 by omega), decide_eq_false (show ¬ x4 < x3 by omega), decide_eq_false (show ¬ x4 < x2 by omega), cond_false]
end Go.Proofs.YtnlnbnjnapofmaaGreat.Mx
namespace Go.Sx
structure R3 where
  x : Int
  y : Int
  z : Int
structure RM where
  x : R3
  y : R3
  z : R3
def R3.dot (a b : R3) : Int := a.x * b.x + a.y * b.y + a.z * b.z
def RM.tr (m : RM) : RM := ⟨⟨m.x.x, m.y.x, m.z.x⟩, ⟨m.x.y, m.y.y, m.z.y⟩, ⟨m.x.z, m.y.z, m.z.z⟩⟩
def RM.app (m : RM) (v : R3) : R3 := ⟨R3.dot m.x v, R3.dot m.y v, R3.dot m.z v⟩
def RM.mul (a b : RM) : RM := ⟨b.tr.app a.x, b.tr.app a.y, b.tr.app a.z⟩
structure VIn (v : V3) (m : Int) (r : R3) : Prop where
  x : In v.x m r.x
  y : In v.y m r.y
  z : In v.z m r.z
structure MIn (v : M3) (m : Int) (r : RM) : Prop where
  x : VIn v.x m r.x
  y : VIn v.y m r.y
  z : VIn v.z m r.z
structure VOk (v : V3) : Prop where
  x : Ok v.x
  y : Ok v.y
  z : Ok v.z
structure MOk (v : M3) : Prop where
  x : VOk v.x
  y : VOk v.y
  z : VOk v.z
structure RB (B : Int) (r : R3) : Prop where
  x : -B ≤ r.x ∧ r.x ≤ B
  y : -B ≤ r.y ∧ r.y ≤ B
  z : -B ≤ r.z ∧ r.z ≤ B
structure RMB (B : Int) (r : RM) : Prop where
  x : RB B r.x
  y : RB B r.y
  z : RB B r.z
theorem MIn.tr {v : M3} {m : Int} {r : RM} (h : MIn v m r) : MIn v.tr m r.tr := ⟨⟨h.x.x, h.y.x, h.z.x⟩, ⟨h.x.y, h.y.y, h.z.y⟩, ⟨h.x.z, h.y.z, h.z.z⟩⟩
theorem MOk.tr {v : M3} (h : MOk v) : MOk v.tr := ⟨⟨h.x.x, h.y.x, h.z.x⟩, ⟨h.x.y, h.y.y, h.z.y⟩, ⟨h.x.z, h.y.z, h.z.z⟩⟩
theorem RMB.tr {B : Int} {v : RM} (h : RMB B v) : RMB B v.tr := ⟨⟨h.x.x, h.y.x, h.z.x⟩, ⟨h.x.y, h.y.y, h.z.y⟩, ⟨h.x.z, h.y.z, h.z.z⟩⟩
theorem lim_Ok {a : Iv} (h : Ok a) : Ok (limV a) := by
  unfold Ok limV limI at *; simp only; omega
theorem sinOver_b {a : Iv} (v : Ok a) : -65536 ≤ (sinOverI a).lo ∧ (sinOverI a).lo ≤ (sinOverI a).hi ∧ (sinOverI a).hi ≤ 65536 := by rw [sinOver_ov]; exact ov_bnd v
theorem cosOver_b {a : Iv} (v : Ok a) : -65536 ≤ (cosOverI a).lo ∧ (cosOverI a).lo ≤ (cosOverI a).hi ∧ (cosOverI a).hi ≤ 65536 := by rw [cosOver_ov]; exact ov_bnd v
theorem neg_Ok {a : Iv} (v : Ok a) : Ok (Iv.neg a) := by rw [neg_of v]; unfold Ok at *; simp only; omega
theorem one_Ok : Ok iv1 := by unfold Ok; decide
theorem zero_Ok : Ok iv0 := by unfold Ok; decide
theorem turn_at {axis : Int} {a : Iv} (v : Ok a) (h : axis = 0 ∨ axis = 1 ∨ axis = 2) : M3.turn axis a = if axis = 0 then ⟨⟨iv1, iv0, iv0⟩, ⟨iv0, cosOverI a, Iv.neg (sinOverI a)⟩, ⟨iv0, sinOverI a, cosOverI a⟩⟩ else if axis = 1 then ⟨⟨cosOverI a, iv0, sinOverI a⟩, ⟨iv0, iv1, iv0⟩, ⟨Iv.neg (sinOverI a), iv0, cosOverI a⟩⟩ else ⟨⟨cosOverI a, Iv.neg (sinOverI a), iv0⟩, ⟨sinOverI a, cosOverI a, iv0⟩, ⟨iv0, iv0, iv1⟩⟩ := by
  unfold M3.turn
  rw [valid_of v]
  rcases h with h | h | h <;> subst h <;> rfl
end Go.Sx
namespace Go.Sx
structure VNear (a b : R3) : Prop where
  x : -((1099511627776 : Int) * (340282366920938463463374607431768211456 : Int)) ≤ a.x - (340282366920938463463374607431768211456 : Int) * b.x ∧ a.x - (340282366920938463463374607431768211456 : Int) * b.x ≤ (1099511627776 : Int) * (340282366920938463463374607431768211456 : Int)
  y : -((1099511627776 : Int) * (340282366920938463463374607431768211456 : Int)) ≤ a.y - (340282366920938463463374607431768211456 : Int) * b.y ∧ a.y - (340282366920938463463374607431768211456 : Int) * b.y ≤ (1099511627776 : Int) * (340282366920938463463374607431768211456 : Int)
  z : -((1099511627776 : Int) * (340282366920938463463374607431768211456 : Int)) ≤ a.z - (340282366920938463463374607431768211456 : Int) * b.z ∧ a.z - (340282366920938463463374607431768211456 : Int) * b.z ≤ (1099511627776 : Int) * (340282366920938463463374607431768211456 : Int)
structure MNear (a b : RM) : Prop where
  x : VNear a.x b.x
  y : VNear a.y b.y
  z : VNear a.z b.z
structure VMeet (a b : V3) : Prop where
  x : Iv.meetB a.x b.x = true
  y : Iv.meetB a.y b.y = true
  z : Iv.meetB a.z b.z = true
structure MMeet (a b : M3) : Prop where
  x : VMeet a.x b.x
  y : VMeet a.y b.y
  z : VMeet a.z b.z
end Go.Sx
namespace Go.Sx
structure Dg (P E : Int) (B : RM) : Prop where
  x : 0 ≤ P - R3.dot B.x B.x ∧ P - R3.dot B.x B.x ≤ E
  y : 0 ≤ P - R3.dot B.y B.y ∧ P - R3.dot B.y B.y ≤ E
  z : 0 ≤ P - R3.dot B.z B.z ∧ P - R3.dot B.z B.z ≤ E
  xy : R3.dot B.x B.y = 0
  xz : R3.dot B.x B.z = 0
  yz : R3.dot B.y B.z = 0
end Go.Sx
namespace Go.Sx
structure Orth (Q T : Int) (X : RM) : Prop where
  x : Q - T ≤ R3.dot X.x X.x ∧ R3.dot X.x X.x ≤ Q
  y : Q - T ≤ R3.dot X.y X.y ∧ R3.dot X.y X.y ≤ Q
  z : Q - T ≤ R3.dot X.z X.z ∧ R3.dot X.z X.z ≤ Q
  xy : -T ≤ R3.dot X.x X.y ∧ R3.dot X.x X.y ≤ T
  xz : -T ≤ R3.dot X.x X.z ∧ R3.dot X.x X.z ≤ T
  yz : -T ≤ R3.dot X.y X.z ∧ R3.dot X.y X.z ≤ T
end Go.Sx
namespace Go.Sx
structure Sub (a b : Iv) : Prop where
  ok : Ok a
  ok' : Ok b
  lo : b.lo ≤ a.lo
  hi : a.hi ≤ b.hi
theorem Sub.refl {a : Iv} (h : Ok a) : Sub a a := ⟨h, h, Int.le_refl _, Int.le_refl _⟩
theorem Sub.trans {a b c : Iv} (h : Sub a b) (k : Sub b c) : Sub a c := ⟨h.ok, k.ok', by have := h.lo; have := k.lo; omega, by have := h.hi; have := k.hi; omega⟩
theorem in1 {a b : Iv} (h : Sub a b) {x : Int} (h1 : a.lo ≤ x) (h2 : x ≤ a.hi) : In b 1 x := ⟨by have := h.lo; omega, by have := h.hi; omega⟩
theorem sub_mul {a a' b b' : Iv} (h : Sub a a') (k : Sub b b') : Sub (Iv.mul a b) (Iv.mul a' b') := by
  refine ⟨mul_Ok _ _, mul_Ok _ _, ?_, ?_⟩
  all_goals
    have va := h.ok
    have vb := k.ok
    have p1 := mul_prod (by decide) (by decide) (in1 h (x := a.lo) (Int.le_refl _) va.2.1) (in1 k (x := b.lo) (Int.le_refl _) vb.2.1)
    have p2 := mul_prod (by decide) (by decide) (in1 h (x := a.lo) (Int.le_refl _) va.2.1) (in1 k (x := b.hi) vb.2.1 (Int.le_refl _))
    have p3 := mul_prod (by decide) (by decide) (in1 h (x := a.hi) va.2.1 (Int.le_refl _)) (in1 k (x := b.lo) (Int.le_refl _) vb.2.1)
    have p4 := mul_prod (by decide) (by decide) (in1 h (x := a.hi) va.2.1 (Int.le_refl _)) (in1 k (x := b.hi) vb.2.1 (Int.le_refl _))
    simp only [Iv.mul, valid_of h.ok, valid_of h.ok', valid_of k.ok, valid_of k.ok', Bool.and_self, cond_true]
    simp only [Int.mul_one] at p1 p2 p3 p4
    refine clamp_mono ?_
  · have : min4 (a'.lo * b'.lo) (a'.lo * b'.hi) (a'.hi * b'.lo) (a'.hi * b'.hi) ≤ min4 (a.lo * b.lo) (a.lo * b.hi) (a.hi * b.lo) (a.hi * b.hi) := by
      generalize min4 (a'.lo * b'.lo) (a'.lo * b'.hi) (a'.hi * b'.lo) (a'.hi * b'.hi) = m at *
      unfold min4; omega
    omega
  · have : max4 (a.lo * b.lo) (a.lo * b.hi) (a.hi * b.lo) (a.hi * b.hi) ≤ max4 (a'.lo * b'.lo) (a'.lo * b'.hi) (a'.hi * b'.lo) (a'.hi * b'.hi) := by
      generalize max4 (a'.lo * b'.lo) (a'.lo * b'.hi) (a'.hi * b'.lo) (a'.hi * b'.hi) = m at *
      unfold max4; omega
    unfold ceilI
    omega
theorem sub_add {a a' b b' : Iv} (h : Sub a a') (k : Sub b b') : Sub (Iv.add a b) (Iv.add a' b') := by
  have h1 := h.lo; have h2 := h.hi; have k1 := k.lo; have k2 := k.hi
  refine ⟨add_Ok _ _, add_Ok _ _, ?_, ?_⟩ <;> simp only [Iv.add, valid_of h.ok, valid_of h.ok', valid_of k.ok, valid_of k.ok', Bool.and_self, cond_true] <;> exact clamp_mono (by omega)
theorem sub_neg {a a' : Iv} (h : Sub a a') : Sub (Iv.neg a) (Iv.neg a') := by
  have h1 := h.lo; have h2 := h.hi
  refine ⟨neg_Ok h.ok, neg_Ok h.ok', ?_, ?_⟩ <;> rw [neg_of h.ok, neg_of h.ok'] <;> simp only <;> omega
theorem sub_lim {a a' : Iv} (h : Sub a a') : Sub (limV a) (limV a') := by
  have h1 := h.lo; have h2 := h.hi
  exact ⟨lim_Ok h.ok, lim_Ok h.ok', by simp only [limV, limI]; omega, by simp only [limV, limI]; omega⟩
structure VSub (a b : V3) : Prop where
  x : Sub a.x b.x
  y : Sub a.y b.y
  z : Sub a.z b.z
structure MSub (a b : M3) : Prop where
  x : VSub a.x b.x
  y : VSub a.y b.y
  z : VSub a.z b.z
theorem VSub.refl {a : V3} (h : VOk a) : VSub a a := ⟨.refl h.x, .refl h.y, .refl h.z⟩
theorem MSub.refl {a : M3} (h : MOk a) : MSub a a := ⟨.refl h.x, .refl h.y, .refl h.z⟩
theorem MSub.tr {a b : M3} (h : MSub a b) : MSub a.tr b.tr := ⟨⟨h.x.x, h.y.x, h.z.x⟩, ⟨h.x.y, h.y.y, h.z.y⟩, ⟨h.x.z, h.y.z, h.z.z⟩⟩
theorem sub_dot {a a' b b' : V3} (h : VSub a a') (k : VSub b b') : Sub (V3.dot a b) (V3.dot a' b') := sub_add (sub_add (sub_mul h.x k.x) (sub_mul h.y k.y)) (sub_mul h.z k.z)
theorem sub_apply {a a' : M3} {b b' : V3} (h : MSub a a') (k : VSub b b') : VSub (M3.apply a b) (M3.apply a' b') := ⟨sub_dot h.x k, sub_dot h.y k, sub_dot h.z k⟩
theorem sub_row {a a' : V3} {b b' : M3} (h : VSub a a') (k : MSub b b') : VSub (M3.row a b) (M3.row a' b') := ⟨sub_lim (sub_dot h k.tr.x), sub_lim (sub_dot h k.tr.y), sub_lim (sub_dot h k.tr.z)⟩
theorem sub_Mmul {a a' b b' : M3} (h : MSub a a') (k : MSub b b') : MSub (M3.mul a b) (M3.mul a' b') := ⟨sub_row h.x k, sub_row h.y k, sub_row h.z k⟩
theorem sub_Vadd {a a' b b' : V3} (h : VSub a a') (k : VSub b b') : VSub (V3.add a b) (V3.add a' b') := ⟨sub_add h.x k.x, sub_add h.y k.y, sub_add h.z k.z⟩
theorem sub_sin {a a' : Iv} (h : Sub a a') : Sub (sinOverI a) (sinOverI a') := by
  have b1 := sinOver_b h.ok
  have b2 := sinOver_b h.ok'
  have n := ov_nested (c := 0) h.ok' ⟨h.lo, h.ok.2.1, h.hi⟩
  rw [sinOver_ov, sinOver_ov] at *
  exact ⟨by unfold Ok; omega, by unfold Ok; omega, n.1, n.2⟩
theorem sub_cos {a a' : Iv} (h : Sub a a') : Sub (cosOverI a) (cosOverI a') := by
  have b1 := cosOver_b h.ok
  have b2 := cosOver_b h.ok'
  have n := ov_nested (c := 16384) h.ok' ⟨h.lo, h.ok.2.1, h.hi⟩
  rw [cosOver_ov, cosOver_ov] at *
  exact ⟨by unfold Ok; omega, by unfold Ok; omega, n.1, n.2⟩
theorem sub_turn {k : Int} {a a' : Iv} (hk : 0 ≤ k ∧ k < 3) (h : Sub a a') : MSub (M3.turn k a) (M3.turn k a') := by
  have hk' : k = 0 ∨ k = 1 ∨ k = 2 := by omega
  rw [turn_at h.ok hk', turn_at h.ok' hk']
  have s := sub_sin h
  have c := sub_cos h
  have t := sub_neg s
  have o := Sub.refl one_Ok
  have z := Sub.refl zero_Ok
  rcases hk' with e | e | e <;> subst e
  · exact ⟨⟨o, z, z⟩, ⟨z, c, t⟩, ⟨z, s, c⟩⟩
  · exact ⟨⟨c, z, s⟩, ⟨z, o, z⟩, ⟨t, z, c⟩⟩
  · exact ⟨⟨c, t, z⟩, ⟨s, c, z⟩, ⟨z, z, o⟩⟩
theorem part_sub {a : Iv} (v : Ok a) (m k : Int) : Sub (partI a m k) a := by
  have h := part_in m k v.2.1
  unfold Ok at v
  exact ⟨by unfold Ok; omega, v, h.1, h.2.2⟩
end Go.Sx
namespace Go.Sx
theorem clampM (x : Int) : -2147483648 ≤ clampI x ∧ clampI x ≤ 2147483648 := by
  unfold clampI; omega
theorem lks_len {js : List J} {bx : List Iv} : ∀ n, n ≤ js.length → n ≤ bx.length → (lks js bx n).length = n
  | 0, _, _ => rfl
  | n + 1, h1, h2 => by
    have e1 : js[n]? = some js[n] := List.getElem?_eq_getElem (by omega)
    have e2 : bx[n]? = some bx[n] := List.getElem?_eq_getElem (by omega)
    rw [lks_succ e1 e2, List.length_append, lks_len n (by omega) (by omega)]
    rfl
end Go.Sx
namespace Go.Sx
open Go.RowKit
section
variable {P : Program} {n : Nat} {w0 : Base} {ops : Array Oper} {Q : Exit → Act → World → Prop} {S : Slots} {H : Heap}
variable {ty : TypeId} {pos : String} {af : Array Edge} {g : Option (Nat × Bool)} {rest : List Oper}
end
def vc (v : V3) : List Value := [.int .i64 v.x.lo, .int .i64 v.x.hi, .int .i64 v.y.lo, .int .i64 v.y.hi, .int .i64 v.z.lo, .int .i64 v.z.hi]
def ZB (z : Z3) : Prop := (-4194304 ≤ z.x ∧ z.x ≤ 4194304) ∧ (-4194304 ≤ z.y ∧ z.y ≤ 4194304) ∧ (-4194304 ≤ z.z ∧ z.z ≤ 4194304)
end Go.Sx

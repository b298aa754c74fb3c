/- Part 5 of the texts behind the last one: rules and contracts. No condition. -/
import Derived.Test.YtonampcmhhhffaaGreatKR4
namespace Go.Sx
def R3.sub (a b : R3) : R3 := ⟨a.x - b.x, a.y - b.y, a.z - b.z⟩
theorem VIn.sub {a b : V3} {m B : Int} {x y : R3} (va : VOk a) (vb : VOk b) (hm : 0 ≤ m) (hx : VIn a m x) (hy : VIn b m y) (h : RB (B * m) (x.sub y)) (hB : B ≤ 2147483648) : VIn (V3.sub a b) m (x.sub y) := by
  have hb := Int.mul_le_mul_of_nonneg_right hB hm
  have h1 := h.x
  have h2 := h.y
  have h3 := h.z
  simp only [R3.sub] at h1 h2 h3
  exact ⟨sub_In va.x vb.x hm hx.x hy.x (by omega) (by omega), sub_In va.y vb.y hm hx.y hy.y (by omega) (by omega), sub_In va.z vb.z hm hx.z hy.z (by omega) (by omega)⟩
theorem sub_VOk (a b : V3) : VOk (V3.sub a b) := ⟨sub_Ok _ _, sub_Ok _ _, sub_Ok _ _⟩
theorem RB.sub {a b : R3} {B C Z m : Int} (h : RB (B * m) a) (k : RB (C * m) b) (hD : B + C = Z) : RB (Z * m) (a.sub b) := by
  subst hD
  rw [Int.add_mul]
  have h1 := h.x; have h2 := h.y; have h3 := h.z; have k1 := k.x; have k2 := k.y; have k3 := k.z
  exact ⟨by simp only [R3.sub]; omega, by simp only [R3.sub]; omega, by simp only [R3.sub]; omega⟩
theorem RB.le {a : R3} {B C : Int} (h : RB B a) (hC : B ≤ C) : RB C a := by
  have h1 := h.x; have h2 := h.y; have h3 := h.z
  exact ⟨by omega, by omega, by omega⟩
theorem RB.mulr {a : R3} {B k c : Int} (h : RB (B * k) a) (hc : 0 ≤ c) : RB (B * (k * c)) (a.scale c) := by
  have := h.scale hc
  rwa [Int.mul_assoc] at this
structure Iso (P T : Int) (X : RM) : Prop where
  up : ∀ a, R3.dot (X.app a) (X.app a) ≤ P * P * R3.dot a a
  lo : ∀ a, P * P * R3.dot a a - T * R3.dot a a ≤ R3.dot (X.app a) (X.app a)
theorem dot_nn (a : R3) : 0 ≤ R3.dot a a := by
  have h1 := sq_nonneg a.x
  have h2 := sq_nonneg a.y
  have h3 := sq_nonneg a.z
  unfold R3.dot
  omega
theorem Iso.rmb {P T : Int} {X : RM} (h : Iso P T X) (hP : 0 ≤ P) : RMB P X := by
  have c1 := rb_of_dot hP (by have := h.up ⟨1, 0, 0⟩; simpa [R3.dot] using this)
  have c2 := rb_of_dot hP (by have := h.up ⟨0, 1, 0⟩; simpa [R3.dot] using this)
  have c3 := rb_of_dot hP (by have := h.up ⟨0, 0, 1⟩; simpa [R3.dot] using this)
  have a1 := c1.x; have a2 := c1.y; have a3 := c1.z
  have b1 := c2.x; have b2 := c2.y; have b3 := c2.z
  have d1 := c3.x; have d2 := c3.y; have d3 := c3.z
  simp only [RM.app, R3.dot, Int.mul_one, Int.mul_zero, Int.add_zero, Int.zero_add] at a1 a2 a3 b1 b2 b3 d1 d2 d3
  exact ⟨⟨a1, b1, d1⟩, ⟨a2, b2, d2⟩, ⟨a3, b3, d3⟩⟩
theorem Iso.mul {P Q T U' : Int} {X Y : RM} (h : Iso P T X) (k : Iso Q U' Y) (hP : 0 ≤ P) (hQ : 0 ≤ Q) (hT : 0 ≤ T) (hU : 0 ≤ U') : Iso (P * Q) (T * (Q * Q) + U' * (P * P)) (RM.mul X Y) := by
  refine ⟨fun a => ?_, fun a => ?_⟩
  · rw [mul_app]
    have h1 := h.up (Y.app a)
    have h2 := Int.mul_le_mul_of_nonneg_left (k.up a) (sq_nonneg P)
    have e : P * Q * (P * Q) * R3.dot a a = P * P * (Q * Q * R3.dot a a) := by grind
    rw [e]; omega
  · rw [mul_app]
    have h1 := h.lo (Y.app a)
    have h2 := Int.mul_le_mul_of_nonneg_left (k.lo a) (sq_nonneg P)
    have h3 := Int.mul_le_mul_of_nonneg_left (k.up a) hT
    have e1 : P * Q * (P * Q) * R3.dot a a - (T * (Q * Q) + U' * (P * P)) * R3.dot a a = P * P * (Q * Q * R3.dot a a - U' * R3.dot a a) - T * (Q * Q * R3.dot a a) := by grind
    rw [e1]; omega
structure Rg (c B : Int) (p : Po) (s T : Int) (X : RM) (m : Int) (y : R3) : Prop where
  pos : 0 < s
  ok : MOk p.r
  isin : MIn p.r s X
  iso : Iso (65536 * s) T X
  t0 : 0 ≤ T
  small : T * 1152921504606846976 ≤ c * ((65536 * s) * (65536 * s))
  tok : VOk p.t
  mpos : 0 < m
  tin : VIn p.t m y
  tb : RB (B * m) y
def RgE (c B : Int) (p : Po) : Prop := ∃ s T X m y, Rg c B p s T X m y
theorem RgE.mono {c B c' B' : Int} {p : Po} (h : RgE c B p) (hc : c ≤ c') (hB : B ≤ B') : RgE c' B' p := by
  obtain ⟨s, T, X, m, y, h⟩ := h
  refine ⟨s, T, X, m, y, h.pos, h.ok, h.isin, h.iso, h.t0, Int.le_trans h.small (Int.mul_le_mul_of_nonneg_right hc (sq_nonneg _)), h.tok, h.mpos, h.tin, h.tb.le (Int.mul_le_mul_of_nonneg_right hB (by have := h.mpos; omega))⟩
theorem VIn.cast {v : V3} {m k : Int} {y : R3} (h : VIn v m y) (e : m = k) : VIn v k y := e ▸ h
theorem app_VOk (a : M3) (v : V3) : VOk (M3.apply a v) := ⟨dot_Ok _ _, dot_Ok _ _, dot_Ok _ _⟩
theorem Rg.app {c B : Int} {p : Po} {s T : Int} {X : RM} {m : Int} {y : R3} (h : Rg c B p s T X m y) {v : V3} {k C : Int} {x : R3} (vo : VOk v) (hk : 0 < k) (vi : VIn v k x) (vb : RB (C * k) x) (hC : 3 * (65536 * C) ≤ 140737488355328) (hC0 : 0 ≤ C) (hB0 : 0 ≤ B) (hS : B + 3 * C ≤ 2147483648) :
    VIn (Po.app p v) (m * ((65536 * s) * k)) ((y.scale ((65536 * s) * k)).add ((X.app x).scale m)) ∧ RB ((B + 3 * C) * (m * ((65536 * s) * k))) ((y.scale ((65536 * s) * k)).add ((X.app x).scale m)) := by
  have hs := h.pos
  have hm := h.mpos
  have rb := h.iso.rmb (by omega)
  have hsk : 0 ≤ (65536 * s) * k := Int.mul_nonneg (by omega) (by omega)
  have i1 : VIn (M3.apply p.r v) ((65536 * s) * k) (X.app x) := (app_In h.ok vo (by omega) (by omega) h.isin vi rb vb hC).cast (by rw [Int.mul_assoc])
  have d : ∀ {u : R3}, RB (65536 * s) u → -(3 * C * (65536 * s * k)) ≤ R3.dot u x ∧ R3.dot u x ≤ 3 * C * (65536 * s * k) := fun hu => by
    have := rot_dot hu vb
    have e : 3 * (65536 * C) * (s * k) = 3 * C * (65536 * s * k) := by grind
    rwa [e] at this
  have b1 : RB ((3 * C) * ((65536 * s) * k)) (X.app x) := ⟨d rb.x, d rb.y, d rb.z⟩
  have b2 : RB ((3 * C) * (m * ((65536 * s) * k))) ((X.app x).scale m) := by
    have := b1.mulr (c := m) (by omega)
    rwa [Int.mul_comm ((65536 * s) * k) m] at this
  have b3 : RB (B * (m * ((65536 * s) * k))) (y.scale ((65536 * s) * k)) := h.tb.mulr hsk
  have bs := b3.add b2 rfl
  refine ⟨?_, bs⟩
  unfold Po.app
  exact VIn.add h.tok (app_VOk _ _) (Int.mul_nonneg (by omega) hsk) (h.tin.scale hsk) ((i1.scale (k := m) (by omega)).cast (Int.mul_comm _ _)) bs hS
theorem rg_mul {c d B C : Int} {p q : Po} (h : RgE c B p) (k : RgE d C q) (hC : 3 * (65536 * C) ≤ 140737488355328) (hC0 : 0 ≤ C) (hB0 : 0 ≤ B) (hS : B + 3 * C ≤ 2147483648) : RgE (c + d) (B + 3 * C) (Po.mul p q) := by
  obtain ⟨s, T, X, m, y, h⟩ := h
  obtain ⟨s', T', X', m', y', k⟩ := k
  have hs := h.pos
  have hs' := k.pos
  have hm := h.mpos
  have hss : 0 < s * s' := Int.mul_pos hs hs'
  obtain ⟨t1, t2⟩ := h.app k.tok k.mpos k.tin k.tb hC hC0 hB0 hS
  have iso := h.iso.mul k.iso (by omega) (by omega) h.t0 k.t0
  have e : 65536 * s * (65536 * s') = 65536 * (65536 * (s * s')) := by grind
  rw [e] at iso
  refine ⟨65536 * (s * s'), T * (65536 * s' * (65536 * s')) + T' * (65536 * s * (65536 * s)), RM.mul X X', m * ((65536 * s) * m'), _, by omega, mul_MOk _ _, ?_, iso, ?_, ?_, ?_, ?_, t1, t2⟩
  · exact mul_MIn h.ok k.ok (by omega) (by omega) h.isin k.isin (h.iso.rmb (by omega)) (k.iso.rmb (by omega)) (by decide) (iso.rmb (by omega))
  · exact Int.add_nonneg (Int.mul_nonneg h.t0 (sq_nonneg _)) (Int.mul_nonneg k.t0 (sq_nonneg _))
  · have h1 := Int.mul_le_mul_of_nonneg_right h.small (sq_nonneg (65536 * s'))
    have h2 := Int.mul_le_mul_of_nonneg_right k.small (sq_nonneg (65536 * s))
    have e1 : (T * (65536 * s' * (65536 * s')) + T' * (65536 * s * (65536 * s))) * 1152921504606846976 = T * 1152921504606846976 * (65536 * s' * (65536 * s')) + T' * 1152921504606846976 * (65536 * s * (65536 * s)) := by grind
    have e2 : (c + d) * (65536 * (65536 * (s * s')) * (65536 * (65536 * (s * s')))) = c * (65536 * s * (65536 * s)) * (65536 * s' * (65536 * s')) + d * (65536 * s' * (65536 * s')) * (65536 * s * (65536 * s)) := by grind
    rw [e1, e2]; omega
  · exact add_VOk _ _
  · exact Int.mul_pos hm (Int.mul_pos (by omega) k.mpos)
theorem rg_of {p : Po} {s T : Int} {X : RM} {B : Int} {y : R3} (h : Rot p.r s T X) (hlo : ∀ a, (65536 * s) * (65536 * s) * R3.dot a a - T * R3.dot a a ≤ R3.dot (X.app a) (X.app a)) (ht : VOk p.t) (hv : VIn p.t 1 y) (hb : RB B y) : RgE 1 B p :=
  ⟨s, T, X, 1, y, h.pos, h.ok, h.isin, ⟨h.c', hlo⟩, h.t0, by have := h.small; omega, ht, by decide, hv, by rwa [Int.mul_one]⟩
theorem unit_lo (a : R3) : (65536 * 1) * (65536 * 1) * R3.dot a a - 0 * R3.dot a a ≤ R3.dot (RM.app ⟨⟨65536, 0, 0⟩, ⟨0, 65536, 0⟩, ⟨0, 0, 65536⟩⟩ a) (RM.app ⟨⟨65536, 0, 0⟩, ⟨0, 65536, 0⟩, ⟨0, 0, 65536⟩⟩ a) := by
  apply Int.le_of_eq
  simp only [RM.app, R3.dot]
  grind
theorem rg_shift {v : V3} {B : Int} {y : R3} (ht : VOk v) (hv : VIn v 1 y) (hb : RB B y) : RgE 1 B (Po.shift v) := rg_of rot_unit unit_lo ht hv hb
theorem rg_rest : RgE 1 0 Po.rest := rg_shift (v := V3.zero) (y := ⟨0, 0, 0⟩) ⟨zero_Ok, zero_Ok, zero_Ok⟩ ⟨zero_In 1, zero_In 1, zero_In 1⟩ ⟨by decide, by decide, by decide⟩
theorem rg_turn {k x : Int} (hk : 0 ≤ k ∧ k < 3) (v : Ok ⟨x, x⟩) : RgE 1 0 (Po.turn k ⟨x, x⟩) := by
  refine rg_of (p := Po.turn k ⟨x, x⟩) (rot_turn hk v ⟨Int.le_refl _, Int.le_refl _⟩) (fun a => ?_) (y := ⟨0, 0, 0⟩) ⟨zero_Ok, zero_Ok, zero_Ok⟩ ⟨zero_In 1, zero_In 1, zero_In 1⟩ ⟨by decide, by decide, by decide⟩
  exact (TR_len k x a).2
theorem rg_put {k x : Int} (v : Ok ⟨x, x⟩) (hx : -1000000 ≤ x ∧ x ≤ 1000000) : RgE 1 1000000 (Po.shift (V3.put k ⟨x, x⟩)) := by
  have hi : In ⟨x, x⟩ 1 x := ⟨by simp, by simp⟩
  have z := zero_In 1
  have o : -1000000 ≤ (0 : Int) ∧ (0 : Int) ≤ 1000000 := by decide
  unfold V3.put
  split
  · exact rg_shift (y := ⟨x, 0, 0⟩) ⟨v, zero_Ok, zero_Ok⟩ ⟨hi, z, z⟩ ⟨hx, o, o⟩
  · split
    · exact rg_shift (y := ⟨0, x, 0⟩) ⟨zero_Ok, v, zero_Ok⟩ ⟨z, hi, z⟩ ⟨o, hx, o⟩
    · exact rg_shift (y := ⟨0, 0, x⟩) ⟨zero_Ok, zero_Ok, v⟩ ⟨z, z, hi⟩ ⟨o, o, hx⟩
theorem zb_rb {z : Z3} (h : ZB z) : RB 4194304 z.r := ⟨h.1, h.2.1, h.2.2⟩
theorem rg_jPose {k x : Int} {o : Z3} (ho : ZB o) (v : Ok ⟨x, x⟩) (hx : -1000000 ≤ x ∧ x ≤ 1000000) : RgE 2 7194304 (jPose k o ⟨x, x⟩) := by
  have h1 : RgE 1 4194304 (Po.shift (V3.of o)) := rg_shift (of_VOk o) (pt_In1 (zb_rb ho) (by decide)) (zb_rb ho)
  have h2 : RgE 1 1000000 (jMot k ⟨x, x⟩) := by
    unfold jMot
    split
    · exact (rg_turn (by omega) v).mono (by decide) (by decide)
    · split
      · exact rg_put v hx
      · exact rg_rest.mono (by decide) (by decide)
  exact rg_mul h1 h2 (by decide) (by decide) (by decide) (by decide)
theorem rg_lks {js : List J} {cs : List Int} (hj : ∀ j ∈ js, ZB j.off) (hc : ∀ x ∈ cs, -1000000 ≤ x ∧ x ≤ 1000000) : ∀ n : Nat, n ≤ 10 → ∀ p ∈ lks js (cs.map fun x => ⟨x, x⟩) n, RgE (3 * n) (21582912 * n) p
  | 0, _, p, h => by simp [lks] at h
  | n + 1, hn, p, h => by
    have ih := rg_lks hj hc n (by omega)
    have up : ∀ q, RgE (3 * n) (21582912 * n) q → RgE (3 * (n + 1 : Nat)) (21582912 * (n + 1 : Nat)) q := fun q hq => hq.mono (by omega) (by omega)
    cases hjn : js[n]? with
    | none => simp only [lks, hjn] at h; exact up p (ih p h)
    | some j =>
      cases hcn : (cs.map fun x => (⟨x, x⟩ : Iv))[n]? with
      | none => simp only [lks, hjn, hcn] at h; exact up p (ih p h)
      | some a =>
        rw [lks_succ hjn hcn] at h
        rcases List.mem_append.1 h with h | h
        · exact up p (ih p h)
        · obtain rfl := List.mem_singleton.1 h
          rw [List.getElem?_map, Option.map_eq_some_iff] at hcn
          obtain ⟨x, hx, rfl⟩ := hcn
          have hb := hc x (List.mem_of_getElem? hx)
          have hjp := rg_jPose (k := j.kind) (x := x) (hj j (List.mem_of_getElem? hjn)) (by unfold Ok; dsimp only; omega) hb
          unfold lkP
          split
          · exact hjp.mono (by omega) (by omega)
          · have hq : RgE (3 * n) (21582912 * n) ((lks js (cs.map fun x => ⟨x, x⟩) n).getD j.parent.toNat Po.rest) ∨ RgE 1 0 ((lks js (cs.map fun x => ⟨x, x⟩) n).getD j.parent.toNat Po.rest) := by
              rw [List.getD_eq_getElem?_getD]
              cases hg : (lks js (cs.map fun x => (⟨x, x⟩ : Iv)) n)[j.parent.toNat]? with
              | none => exact .inr rg_rest
              | some q => exact .inl (ih q (List.mem_of_getElem? hg))
            rcases hq with hq | hq
            · exact (rg_mul hq hjp (by decide) (by decide) (by omega) (by omega)).mono (by omega) (by omega)
            · exact (rg_mul hq hjp (by decide) (by decide) (by decide) (by decide)).mono (by omega) (by omega)
def ZS (z : Z3) : Prop := (-393216 ≤ z.x ∧ z.x ≤ 393216) ∧ (-393216 ≤ z.y ∧ z.y ≤ 393216) ∧ (-393216 ≤ z.z ∧ z.z ≤ 393216)
theorem zs_rb {z : Z3} (h : ZS z) : RB 393216 z.r := ⟨h.1, h.2.1, h.2.2⟩
theorem app_sub (X : RM) (y a b : R3) (m k : Int) : ((y.scale k).add ((X.app a).scale m)).sub ((y.scale k).add ((X.app b).scale m)) = (X.app (a.sub b)).scale m := by
  simp only [R3.sub, R3.add, R3.scale, RM.app, R3.dot, R3.mk.injEq]
  refine ⟨?_, ?_, ?_⟩ <;> grind
theorem dot_scale (a : R3) (m : Int) : R3.dot (a.scale m) (a.scale m) = m * m * R3.dot a a := by
  simp only [R3.scale, R3.dot]
  grind
theorem meet_fin {A C : Iv} {M d t e : Int} (oA : Ok A) (oC : Ok C) (hM : 0 < M) (hA : In A (65536 * (1 * 1)) d) (hC : In C (65536 * (M * M)) t) (h1 : t ≤ M * M * d) (h2 : M * M * d ≤ t + e) (he : e < 65536 * (M * M)) : Iv.meetB A C = true := by
  obtain ⟨a1, a2⟩ := hA
  obtain ⟨c1, c2⟩ := hC
  have hMM : 0 < M * M := Int.mul_pos hM hM
  have p1 := Int.mul_le_mul_of_nonneg_left a1 (Int.le_of_lt hMM)
  have p2 := Int.mul_le_mul_of_nonneg_left a2 (Int.le_of_lt hMM)
  have e1 : M * M * (A.lo * (65536 * (1 * 1))) = A.lo * (65536 * (M * M)) := by grind
  have e2 : M * M * (A.hi * (65536 * (1 * 1))) = A.hi * (65536 * (M * M)) := by grind
  rw [e1] at p1
  rw [e2] at p2
  have hS : 0 < 65536 * (M * M) := by omega
  generalize 65536 * (M * M) = S at *
  have q1 : A.lo ≤ C.hi := by
    have : A.lo * S < (C.hi + 1) * S := by rw [Int.add_mul]; omega
    have := Int.lt_of_mul_lt_mul_right this (Int.le_of_lt hS)
    omega
  have q2 : C.lo ≤ A.hi := by
    have : C.lo * S ≤ A.hi * S := by omega
    exact Int.le_of_mul_le_mul_right this hS
  unfold Iv.meetB
  rw [valid_of oA, valid_of oC, Bool.true_and, Bool.true_and, decide_eq_true_eq]
  unfold Ok at oA oC
  omega
theorem rigid_law {c B : Int} {p : Po} (h : RgE c B p) (hc : c ≤ 30) (hB : 0 ≤ B ∧ B ≤ 300000000) {z z0 : Z3} (hz : ZS z) (hz0 : ZS z0) :
    Iv.meetB (V3.norm (V3.sub (V3.of z) (V3.of z0))) (V3.norm (V3.sub (Po.app p (V3.of z)) (Po.app p (V3.of z0)))) = true := by
  obtain ⟨s, T, X, m, y, h⟩ := h
  have hs := h.pos
  have hm := h.mpos
  have b1 := zs_rb hz
  have b0 := zs_rb hz0
  have i1 := pt_In1 b1 (by decide)
  have i0 := pt_In1 b0 (by decide)
  have b1' : RB (393216 * 1) z.r := b1
  have b0' : RB (393216 * 1) z0.r := b0
  obtain ⟨u1, w1⟩ := h.app (of_VOk z) (by decide) i1 b1' (by decide) (by decide) hB.1 (by omega)
  obtain ⟨u0, w0⟩ := h.app (of_VOk z0) (by decide) i0 b0' (by decide) (by decide) hB.1 (by omega)
  rw [Int.mul_one] at u1 w1 u0 w0
  have hQ : 0 < 65536 * s := by omega
  have hM : 0 < m * (65536 * s) := Int.mul_pos hm hQ
  have dd := w1.sub w0 rfl
  have vi := VIn.sub (add_VOk p.t (M3.apply p.r (V3.of z))) (add_VOk p.t (M3.apply p.r (V3.of z0))) (Int.le_of_lt hM) u1 u0 dd (by omega)
  rw [app_sub] at vi
  have ui := VIn.sub (of_VOk z) (of_VOk z0) (by decide) i1 i0 (b1'.sub b0' rfl) (by decide)
  have up := h.iso.up (z.r.sub z0.r)
  have lo := h.iso.lo (z.r.sub z0.r)
  have sm := h.small
  have t0 := h.t0
  have dn := dot_nn (z.r.sub z0.r)
  have db : R3.dot (z.r.sub z0.r) (z.r.sub z0.r) ≤ 1855425871872 := by
    have q := b1'.sub b0' rfl
    have q1 := (abs_mul q.x q.x).2
    have q2 := (abs_mul q.y q.y).2
    have q3 := (abs_mul q.z q.z).2
    unfold R3.dot
    omega
  have hQQ : 0 < (65536 * s) * (65536 * s) := Int.mul_pos hQ hQ
  have hmm : 0 < m * m := Int.mul_pos hm hm
  have ds := dot_scale (X.app (z.r.sub z0.r)) m
  have eM : (m * (65536 * s)) * (m * (65536 * s)) = m * m * ((65536 * s) * (65536 * s)) := by grind
  generalize hd : R3.dot (z.r.sub z0.r) (z.r.sub z0.r) = d at *
  have upm := Int.mul_le_mul_of_nonneg_left up (Int.le_of_lt hmm)
  have lom := Int.mul_le_mul_of_nonneg_left lo (Int.le_of_lt hmm)
  rw [← Int.mul_assoc, ← eM] at upm
  rw [Int.mul_sub, ← Int.mul_assoc, ← eM] at lom
  have hMM : 0 < (m * (65536 * s)) * (m * (65536 * s)) := Int.mul_pos hM hM
  have dM : m * (65536 * s) * (m * (65536 * s)) * d ≤ 1855425871872 * (m * (65536 * s) * (m * (65536 * s))) := by
    have := Int.mul_le_mul_of_nonneg_left db (Int.le_of_lt hMM)
    rwa [Int.mul_comm _ 1855425871872] at this
  have e0 : m * m * (T * d) < 65536 * ((m * (65536 * s)) * (m * (65536 * s))) := by
    have k1 : T * d ≤ T * 1855425871872 := Int.mul_le_mul_of_nonneg_left db t0
    have k2 : c * ((65536 * s) * (65536 * s)) ≤ 30 * ((65536 * s) * (65536 * s)) := Int.mul_le_mul_of_nonneg_right hc (Int.le_of_lt hQQ)
    have k3 : T * d < 65536 * ((65536 * s) * (65536 * s)) := by
      generalize (65536 * s) * (65536 * s) = Q at *
      omega
    have k4 := Int.mul_lt_mul_of_pos_left k3 hmm
    rw [eM]
    have e : m * m * (65536 * (65536 * s * (65536 * s))) = 65536 * (m * m * (65536 * s * (65536 * s))) := by grind
    omega
  refine meet_fin (norm_Ok _) (norm_Ok _) hM (norm_In (B := 0) (sub_VOk _ _) (by decide) ui (by rw [hd]; omega)) (norm_In (B := 0) (sub_VOk _ _) (Int.le_of_lt hM) vi ?_) (by rw [ds, hd]; exact upm) (e := m * m * (T * d)) (by rw [ds, hd]; omega) e0
  rw [ds]
  omega
theorem shB_ge (l : List Int) : ∀ k, k ≤ (shB l k).1.length
  | 0 => Nat.zero_le _
  | k + 1 => by
    have := shB_ge l k
    simp [shB]
    omega
theorem made_ns1 (l : List Int) : 1 ≤ (shB l (obN l)).1.length := by
  have h1 := shB_ge l (obN l)
  have h2 := obN_b l
  omega
theorem meetB_snd (a b : Iv) : (Iv.meet a b).2 = Iv.meetB a b := by unfold Iv.meet; cases Iv.meetB a b <;> rfl
theorem rg_spP {js : List J} {cs : List Int} (hj : ∀ j ∈ js, ZB j.off) (hc : ∀ x ∈ cs, -1000000 ≤ x ∧ x ≤ 1000000) {n : Nat} (hn : n ≤ 10) (s : Sp) : RgE 30 300000000 (spP (lks js (cs.map fun x => ⟨x, x⟩) n) s) := by
  unfold spP
  split
  · exact rg_rest.mono (by decide) (by decide)
  · rw [List.getD_eq_getElem?_getD]
    cases hg : (lks js (cs.map fun x => (⟨x, x⟩ : Iv)) n)[s.link.toNat]? with
    | none => exact rg_rest.mono (by decide) (by decide)
    | some q => exact (rg_lks hj hc n hn q (List.mem_of_getElem? hg)).mono (by omega) (by omega)
theorem ptsOf_s {L : List Int} {p : Nat} {c : Z3} (hc : (-294912 ≤ c.x ∧ c.x ≤ 294912) ∧ (-294912 ≤ c.y ∧ c.y ≤ 294912) ∧ (-294912 ≤ c.z ∧ c.z ≤ 294912)) : ∀ k, ∀ z ∈ ptsOf L p c k, ZS z
  | 0, z, h => by
    obtain rfl := List.mem_singleton.1 h
    unfold ZS; omega
  | k + 1, z, h => by
    rcases List.mem_append.1 (show z ∈ ptsOf L p c k ++ [_] from h) with h | h
    · exact ptsOf_s hc k z h
    · obtain rfl := List.mem_singleton.1 h
      have a := srcR_bnd L (p + 1 + 3 * k) (k := 2 * 3 + 1) (by decide)
      have b := srcR_bnd L (p + 1 + 3 * k + 1) (k := 2 * 2 + 1) (by decide)
      have d := srcR_bnd L (p + 1 + 3 * k + 2) (k := 2 * 2 + 1) (by decide)
      unfold ZS ptOf srcS
      dsimp only
      omega
theorem shA_s (l : List Int) : ∀ k, k ≤ nJ l 0 → ∀ s ∈ (shA l k).1, ∀ z ∈ s.pts, ZS z
  | 0, _, s, h => by cases h
  | k + 1, hk, s, h => by
    unfold shA at h
    split at h
    · rcases List.mem_append.1 h with h | h
      · exact shA_s l k (by omega) s h
      · obtain rfl := List.mem_singleton.1 h
        have r2 := srcR_bnd l ((shA l k).2 + 2) (k := 4) (by decide)
        exact ptsOf_s (by dsimp only; omega) _
    · exact shA_s l k (by omega) s h
theorem shB_s (l : List Int) : ∀ k, ∀ s ∈ (shB l k).1, ∀ z ∈ s.pts, ZS z
  | 0, s, h => shA_s l _ (Nat.le_refl _) s h
  | k + 1, s, h => by
    rcases List.mem_append.1 (show s ∈ (shB l k).1 ++ [_] from h) with h | h
    · exact shB_s l k s h
    · obtain rfl := List.mem_singleton.1 h
      have r2 := srcR_bnd l (shB l k).2 (k := 2 * 9 + 1) (by decide)
      have r3 := srcR_bnd l ((shB l k).2 + 1) (k := 2 * 9 + 1) (by decide)
      have r4 := srcR_bnd l ((shB l k).2 + 2) (k := 2 * 2 + 1) (by decide)
      exact ptsOf_s (by unfold srcS; dsimp only; omega) _
end Go.Sx
namespace Go.Sx
open Go.RowKit
section
variable {P : Program} {n : Nat} {w0 : Base} {ops : Array Oper} {S : Slots} {H : Heap}
variable {d : Nat} {ty : TypeId} {pos : String} {af : Array Edge} {g : Option (Nat × Bool)}
variable {X Y : Type} {Φ : X → Prop} {V : X → Value} {F : X → World → Prop} {Φ2 : Y → Prop} {V2 : Y → Value} {F2 : Y → World → Prop}
variable {f : FuncId} {xs : List Operand} {ats : Array TypeId} {rest : List Oper} {G : Ghosts}
theorem doG_tellOf {K : Slots → Ghosts → Prop} {vsX : X → List Value} (t : Nat) (hG : lookG G t = some (TellT w0 H Φ V F)) (he : Enters P f) (ha : ∀ x, evs ((t, V x) :: S) xs = some (vsX x))
    (hc : ∀ x w', Φ x → Knows w0 H w' → F x w' → Calls P f (vsX x).toArray w' (RetsF Φ2 V2 F2 w'))
    (hw : ∀ u, wantedS ops ((t, u) :: S) ⟨some d, .call ⟨.value (.func f), xs.toArray, ats⟩, ty, pos, af, g⟩ = some true) (hm : t ∈ Oper.looksAt ops ⟨some d, .call ⟨.value (.func f), xs.toArray, ats⟩, ty, pos, af, g⟩) (hn : Nat.blt d n = true) (hno : look S d = none)
    (next : DoG P n w0 ops H K rest S ((d, false, TellT w0 H Φ2 V2 F2) :: G)) : DoG P n w0 ops H K (⟨some d, .call ⟨.value (.func f), xs.toArray, ats⟩, ty, pos, af, g⟩ :: rest) S G :=
  ⟨d, TellT w0 H Φ2 V2 F2, rfl, by simpa using hn, rfl, stable_tell, fun a w _ hkn k => by
    obtain ⟨u, hu, x, hx, hux, D, q1, q2, q3⟩ := (hkn t hm).2 _ hG
    subst hux
    have h1 : ∀ t' ∈ Oper.looksAt ops ⟨some d, .call ⟨.value (.func f), xs.toArray, ats⟩, ty, pos, af, g⟩, ∀ v', look ((t, V x) :: S) t' = some v' → a.tmps[t']? = some v' := fun t' ht' v' hv' => by
      by_cases e : t = t'
      · subst e; rw [look_cons_same] at hv'; cases hv'; exact hu
      · rw [look_cons_ne _ _ e] at hv'; exact (hkn t' ht').1 v' hv'
    rw [wanted_know (hw (V x)) h1, if_pos rfl, exec_know (known_evs (ha x)) rfl h1, call_run he (ha x)]
    exact ⟨Grow.refl _, (hc x w hx k q3).mono fun e w'' ⟨y, hy, h1, h2, h3⟩ => ⟨V2 y, h1, h2, tell_of k hy (.inr trivial) h2.size h3⟩⟩, .inr (.inl ⟨hno, next⟩)⟩
end
end Go.Sx
namespace Go.Sx
def ic (x : Int) : List Value := [.int .i64 x]
def icC (cs : List Int) : List Value := (cs.map ic).flatten
theorem icC_snoc (cs : List Int) (x : Int) : icC (cs ++ [x]) = icC cs ++ ic x := by simp [icC]
theorem ic_len (l : List Int) : ∀ r ∈ l.map ic, r.length = 1 := fun r hr => by
  obtain ⟨v, _, rfl⟩ := List.mem_map.1 hr
  rfl
theorem ic_slc {cs : List Int} {k cap : Nat} {a : Option Addr} {e : TypeId} {w : World} (hl : cs.length = k) (h : OwnF 0 e 1 a cap k (icC cs) w) : SlcIs 1 a (cs.map ic) w := by
  refine own_slc (m := 0) (e := e) (cap := cap) (ic_len _) ?_
  rw [List.length_map, hl]
  exact h
def cfgs (l : List Int) (js : List J) : Nat → List Int × Nat
  | 0 => ([], 0)
  | k + 1 => match js[k]? with
    | some j => if srcR l (cfgs l js k).2 6 = 0 then ((cfgs l js k).1 ++ [j.lo], (cfgs l js k).2 + 1) else if srcR l (cfgs l js k).2 6 = 1 then ((cfgs l js k).1 ++ [j.hi], (cfgs l js k).2 + 1)
      else ((cfgs l js k).1 ++ [j.lo + srcR l ((cfgs l js k).2 + 1) (j.hi - j.lo + 1)], (cfgs l js k).2 + 1 + 1)
    | none => cfgs l js k
theorem cfg_0 {l : List Int} {js : List J} {k q : Nat} {j : J} {cs : List Int} {r : Int} (hjk : js[k]? = some j) (h : cfgs l js k = (cs, q)) (hr : r = srcR l q 6) (h0 : r = 0) : cfgs l js (k + 1) = (cs ++ [j.lo], q + 1) := by
  simp only [cfgs, hjk, h, ← hr, h0, if_pos]
theorem cfg_1 {l : List Int} {js : List J} {k q : Nat} {j : J} {cs : List Int} {r : Int} (hjk : js[k]? = some j) (h : cfgs l js k = (cs, q)) (hr : r = srcR l q 6) (h1 : r = 1) : cfgs l js (k + 1) = (cs ++ [j.hi], q + 1) := by
  simp only [cfgs, hjk, h, ← hr, h1]
  rfl
theorem cfg_2 {l : List Int} {js : List J} {k q : Nat} {j : J} {cs : List Int} {r x : Int} (hjk : js[k]? = some j) (h : cfgs l js k = (cs, q)) (hr : r = srcR l q 6) (h0 : ¬ r = 0) (h1 : ¬ r = 1) (hx : x = srcR l (q + 1) (j.hi - j.lo + 1)) : cfgs l js (k + 1) = (cs ++ [j.lo + x], q + 1 + 1) := by
  simp only [cfgs, hjk, h, ← hr, if_neg h0, if_neg h1, ← hx]
theorem cfgs_len {l : List Int} {js : List J} : ∀ k, k ≤ js.length → (cfgs l js k).1.length = k
  | 0, _ => rfl
  | k + 1, h => by
    have hk : js[k]? = some js[k] := List.getElem?_eq_getElem (by omega)
    have h2 := cfgs_len (l := l) (js := js) k (by omega)
    simp only [cfgs, hk]
    split
    · simp [h2]
    · split <;> simp [h2]
theorem cfgs_b {l : List Int} {js : List J} (hj : ∀ j ∈ js, JB j) : ∀ k, ∀ x ∈ (cfgs l js k).1, -1000000 ≤ x ∧ x ≤ 1000000
  | 0, a, h => by cases h
  | k + 1, a, h => by
    cases hk : js[k]? with
    | none => simp only [cfgs, hk] at h; exact cfgs_b hj k a h
    | some j =>
      obtain ⟨b1, b2, b3⟩ := hj j (List.mem_of_getElem? hk)
      have r := srcR_bnd l ((cfgs l js k).2 + 1) (k := j.hi - j.lo + 1) (by omega)
      simp only [cfgs, hk] at h
      split at h
      · rcases List.mem_append.1 h with h | h
        · exact cfgs_b hj k a h
        · obtain rfl := List.mem_singleton.1 h; omega
      · split at h
        · rcases List.mem_append.1 h with h | h
          · exact cfgs_b hj k a h
          · obtain rfl := List.mem_singleton.1 h; omega
        · rcases List.mem_append.1 h with h | h
          · exact cfgs_b hj k a h
          · obtain rfl := List.mem_singleton.1 h; omega
end Go.Sx
namespace Go.Sx
def pts1 (cs : List Int) : List Iv := cs.map fun x => ⟨x, x⟩
end Go.Sx
namespace Go.Sx
open Go.RowKit
def deadB (ops : Array Oper) (S : Slots) (o : Oper) : Bool :=
  match o.guard with
  | none => false
  | some (j, _) => match (ops[j]?).bind (·.dst) with
    | some d => match look S d with
      | some (.tuple _) => true
      | _ => false
    | none => false
theorem wanted_dead {n : Nat} {S : Slots} {a : Act} {ops : Array Oper} {o : Oper} (f : Fits n S a) (h : deadB ops S o = true) : Region.wanted o (yielded ops a.tmps) = false := by
  unfold deadB at h
  unfold Region.wanted
  cases hg : o.guard with
  | none => simp [hg] at h
  | some gg =>
    obtain ⟨j, c⟩ := gg
    simp only [hg] at h ⊢
    unfold yielded
    cases hd : (ops[j]?).bind (·.dst) with
    | none => simp [hd] at h
    | some dd =>
      simp only [hd] at h ⊢
      cases hl : look S dd with
      | none => simp [hl] at h
      | some v =>
        rw [hl] at h
        cases v <;> simp at h
        simp [f.has dd _ hl]
theorem doL_dead {P : Program} {n : Nat} {w0 : Base} {ops : Array Oper} {Q : Exit → Act → World → Prop} {S : Slots} {H : Heap} {o : Oper} {rest : List Oper} {d : Nat} (hw : deadB ops S o = true) (hd : o.dst = some d) (hn : Nat.blt d n = true)
    (next : DoL P n w0 ops Q rest ((d, undef) :: S) H) : DoL P n w0 ops Q (o :: rest) S H := by
  intro a w f k
  unfold wpList
  rw [wanted_dead f hw, if_neg (by simp), hd]
  exact next _ _ (f.put hn _) k
section
variable {P : Program} {w0 : Base} {S : Slots} {H : Heap} {ty : TypeId} {pos : String} {af : Array Edge} {g : Option (Nat × Bool)}
theorem opV_eqlS {dd : Option Tmp} {x y : Operand} {t t' : TypeId} {p q : ByteArray} (hb : P.underlying t = some .string) (hx : ev S x = some (.string p)) (hy : ev S y = some (.string q)) : OpV P w0 S H ⟨dd, .binOp .eql t x y t', ty, pos, af, g⟩ (.bool (p.toList == q.toList)) :=
  opV_of (by simp [knownB, Op.operands, hx, hy]) rfl fun w _ => by simp [execOp, evD_of hx, evD_of hy, eqGuard, binOp, Op.stringOp]
theorem opV_lenStr {dd : Option Tmp} {x : Operand} {t : TypeId} {p : ByteArray} (hb : P.underlying t = some .string) (hx : ev S x = some (.string p)) : OpV P w0 S H ⟨dd, .call ⟨.builtin .len, #[x], #[t]⟩, ty, pos, af, g⟩ (.int .i64 (p.size : Int)) :=
  opV_of (by simp [knownB, Op.operands, Call.operands, hx]) rfl fun w _ => by simp [execOp, resolve, invoke, builtin, evD_of hx, Builtin.len_, run_underlying hb, goInt]
end
end Go.Sx
namespace Go.Proofs.YtonampcmhhhffaaGreat
open Go.Sx
theorem fa44_0 : fieldB Tryz.prog 44 0 0 = true := by kernel_rfl
theorem ty2 : tyB Tryz.prog 2 false 1 = true := by kernel_rfl
theorem fa44_1 : fieldB Tryz.prog 44 1 1 = true := by kernel_rfl
theorem ze44 : zeroIs Tryz.prog 44 (.agg #[.int .i64 0, .int .i64 0]) := by unfold zeroIs; kernel_rfl
theorem en120 : Enters Tryz.prog 120 := enters_of Tryz.func120 (by kernel_rfl) (by kernel_rfl)
theorem la44 : layoutOf Tryz.prog 44 = some ([.int .i64 0, .int .i64 0], [(0, 1), (1, 1)]) := by kernel_rfl
theorem ty44 : tyB Tryz.prog 44 true 2 = true := by kernel_rfl
theorem en61 : Enters Tryz.prog 61 := enters_of Tryz.func61 (by kernel_rfl) (by kernel_rfl)
theorem en111 : Enters Tryz.prog 111 := enters_of Tryz.func111 (by kernel_rfl) (by kernel_rfl)
theorem en51 : Enters Tryz.prog 51 := enters_of Tryz.func51 (by kernel_rfl) (by kernel_rfl)
theorem en35 : Enters Tryz.prog 35 := enters_of Tryz.func35 (by kernel_rfl) (by kernel_rfl)
theorem en60 : Enters Tryz.prog 60 := enters_of Tryz.func60 (by kernel_rfl) (by kernel_rfl)
theorem en118 : Enters Tryz.prog 118 := enters_of Tryz.func118 (by kernel_rfl) (by kernel_rfl)
theorem mo : Tryz.prog.follows .mixedOrders = true := by kernel_rfl
theorem en62 : Enters Tryz.prog 62 := enters_of Tryz.func62 (by kernel_rfl) (by kernel_rfl)
theorem en63 : Enters Tryz.prog 63 := enters_of Tryz.func63 (by kernel_rfl) (by kernel_rfl)
theorem iValid (a0 a1 : Int) (w : World) : Calls Tryz.prog 51 [.agg #[.int .i64 a0, .int .i64 a1]].toArray w (Rets (vB (Iv.valid (⟨a0, a1⟩ : Iv))) (w)) := by
  refine calls_of_doC (n := 18) Tryz.func51 rfl rfl rfl ?_
  refine doC_seq ?_
  refine doC_region ?_
  refine doL_box 1 rfl rfl rfl rfl ?_; intro b1
  refine doL_v (opV_assign rfl) rfl rfl rfl ?_
  refine doL_nil ?_
  refine post_then ?_
  refine doC_seq ?_
  refine doC_region ?_
  refine doL_v (opV_fieldAddr fa44_0 rfl) rfl rfl rfl ?_
  refine doL_v (opV_load1 1 ty2 rfl rfl rfl) rfl rfl rfl ?_
  refine doL_v (opV_leq rfl rfl) rfl rfl rfl ?_
  refine doL_v (opV_move rfl) rfl rfl rfl ?_
  refine doL_split 6 rfl (fun hg6 => ?_) (fun hg6 => ?_)
  ·
    refine doL_v (opV_fieldAddr fa44_0 rfl) rfl rfl rfl ?_
    refine doL_v (opV_load1 1 ty2 rfl rfl rfl) rfl rfl rfl ?_
    refine doL_v (opV_fieldAddr fa44_1 rfl) rfl rfl rfl ?_
    refine doL_v (opV_load1 1 ty2 rfl rfl rfl) rfl rfl rfl ?_
    refine doL_v (opV_leq rfl rfl) rfl rfl rfl ?_
    refine doL_v (opV_pick_t rfl rfl rfl rfl) rfl rfl rfl ?_
    refine doL_v (opV_move rfl) rfl rfl rfl ?_
    refine doL_split 13 rfl (fun hg13 => ?_) (fun hg13 => ?_)
    ·
      refine doL_v (opV_fieldAddr fa44_1 rfl) rfl rfl rfl ?_
      refine doL_v (opV_load1 1 ty2 rfl rfl rfl) rfl rfl rfl ?_
      refine doL_v (opV_leq rfl rfl) rfl rfl rfl ?_
      refine doL_v (opV_pick_t rfl rfl rfl rfl) rfl rfl rfl ?_
      refine doL_v (opV_assign rfl) rfl rfl rfl ?_
      refine doL_nil ?_
      refine post_then ?_
      refine doC_ret ?_
      refine post_rets (rs := [.tmp 2]) rfl (resC (resIs_tmp rfl) (resN)) (congrArg (vB) (?_ : _ = Iv.valid (⟨a0, a1⟩ : Iv)))
      simp only [Iv.valid, *, Bool.and_false, Bool.and_true, Bool.true_and, Bool.false_and]
    ·
      refine doL_skip rfl rfl rfl ?_
      refine doL_skip rfl rfl rfl ?_
      refine doL_skip rfl rfl rfl ?_
      refine doL_v (opV_pick_f rfl rfl rfl rfl) rfl rfl rfl ?_
      refine doL_v (opV_assign rfl) rfl rfl rfl ?_
      refine doL_nil ?_
      refine post_then ?_
      refine doC_ret ?_
      refine post_rets (rs := [.tmp 2]) rfl (resC (resIs_tmp rfl) (resN)) (congrArg (vB) (?_ : _ = Iv.valid (⟨a0, a1⟩ : Iv)))
      simp only [Iv.valid, *, Bool.and_false, Bool.and_true, Bool.true_and, Bool.false_and]
  ·
    refine doL_skip rfl rfl rfl ?_
    refine doL_skip rfl rfl rfl ?_
    refine doL_skip rfl rfl rfl ?_
    refine doL_skip rfl rfl rfl ?_
    refine doL_skip rfl rfl rfl ?_
    refine doL_v (opV_pick_f rfl rfl rfl rfl) rfl rfl rfl ?_
    refine doL_v (opV_move rfl) rfl rfl rfl ?_
    refine doL_skip rfl rfl rfl ?_
    refine doL_skip rfl rfl rfl ?_
    refine doL_skip rfl rfl rfl ?_
    refine doL_v (opV_pick_f rfl rfl rfl rfl) rfl rfl rfl ?_
    refine doL_v (opV_assign rfl) rfl rfl rfl ?_
    refine doL_nil ?_
    refine post_then ?_
    refine doC_ret ?_
    refine post_rets (rs := [.tmp 2]) rfl (resC (resIs_tmp rfl) (resN)) (congrArg (vB) (?_ : _ = Iv.valid (⟨a0, a1⟩ : Iv)))
    simp only [Iv.valid, *, Bool.and_false, Bool.and_true, Bool.true_and, Bool.false_and]
theorem rValid (a0 a1 : Int) (w : World) : Calls Tryz.prog 35 [.agg #[.int .i64 a0, .int .i64 a1]].toArray w (Rets (vB (Iv.valid (⟨a0, a1⟩ : Iv))) (w)) := by
  refine calls_of_doC (n := 18) Tryz.func35 rfl rfl rfl ?_
  refine doC_seq ?_
  refine doC_region ?_
  refine doL_box 1 rfl rfl rfl rfl ?_; intro b1
  refine doL_v (opV_assign rfl) rfl rfl rfl ?_
  refine doL_nil ?_
  refine post_then ?_
  refine doC_seq ?_
  refine doC_region ?_
  refine doL_v (opV_fieldAddr fa44_0 rfl) rfl rfl rfl ?_
  refine doL_v (opV_load1 1 ty2 rfl rfl rfl) rfl rfl rfl ?_
  refine doL_v (opV_leq rfl rfl) rfl rfl rfl ?_
  refine doL_v (opV_move rfl) rfl rfl rfl ?_
  refine doL_split 6 rfl (fun hg6 => ?_) (fun hg6 => ?_)
  ·
    refine doL_v (opV_fieldAddr fa44_0 rfl) rfl rfl rfl ?_
    refine doL_v (opV_load1 1 ty2 rfl rfl rfl) rfl rfl rfl ?_
    refine doL_v (opV_fieldAddr fa44_1 rfl) rfl rfl rfl ?_
    refine doL_v (opV_load1 1 ty2 rfl rfl rfl) rfl rfl rfl ?_
    refine doL_v (opV_leq rfl rfl) rfl rfl rfl ?_
    refine doL_v (opV_pick_t rfl rfl rfl rfl) rfl rfl rfl ?_
    refine doL_v (opV_move rfl) rfl rfl rfl ?_
    refine doL_split 13 rfl (fun hg13 => ?_) (fun hg13 => ?_)
    ·
      refine doL_v (opV_fieldAddr fa44_1 rfl) rfl rfl rfl ?_
      refine doL_v (opV_load1 1 ty2 rfl rfl rfl) rfl rfl rfl ?_
      refine doL_v (opV_leq rfl rfl) rfl rfl rfl ?_
      refine doL_v (opV_pick_t rfl rfl rfl rfl) rfl rfl rfl ?_
      refine doL_v (opV_assign rfl) rfl rfl rfl ?_
      refine doL_nil ?_
      refine post_then ?_
      refine doC_ret ?_
      refine post_rets (rs := [.tmp 2]) rfl (resC (resIs_tmp rfl) (resN)) (congrArg (vB) (?_ : _ = Iv.valid (⟨a0, a1⟩ : Iv)))
      simp only [Iv.valid, *, Bool.and_false, Bool.and_true, Bool.true_and, Bool.false_and]
    ·
      refine doL_skip rfl rfl rfl ?_
      refine doL_skip rfl rfl rfl ?_
      refine doL_skip rfl rfl rfl ?_
      refine doL_v (opV_pick_f rfl rfl rfl rfl) rfl rfl rfl ?_
      refine doL_v (opV_assign rfl) rfl rfl rfl ?_
      refine doL_nil ?_
      refine post_then ?_
      refine doC_ret ?_
      refine post_rets (rs := [.tmp 2]) rfl (resC (resIs_tmp rfl) (resN)) (congrArg (vB) (?_ : _ = Iv.valid (⟨a0, a1⟩ : Iv)))
      simp only [Iv.valid, *, Bool.and_false, Bool.and_true, Bool.true_and, Bool.false_and]
  ·
    refine doL_skip rfl rfl rfl ?_
    refine doL_skip rfl rfl rfl ?_
    refine doL_skip rfl rfl rfl ?_
    refine doL_skip rfl rfl rfl ?_
    refine doL_skip rfl rfl rfl ?_
    refine doL_v (opV_pick_f rfl rfl rfl rfl) rfl rfl rfl ?_
    refine doL_v (opV_move rfl) rfl rfl rfl ?_
    refine doL_skip rfl rfl rfl ?_
    refine doL_skip rfl rfl rfl ?_
    refine doL_skip rfl rfl rfl ?_
    refine doL_v (opV_pick_f rfl rfl rfl rfl) rfl rfl rfl ?_
    refine doL_v (opV_assign rfl) rfl rfl rfl ?_
    refine doL_nil ?_
    refine post_then ?_
    refine doC_ret ?_
    refine post_rets (rs := [.tmp 2]) rfl (resC (resIs_tmp rfl) (resN)) (congrArg (vB) (?_ : _ = Iv.valid (⟨a0, a1⟩ : Iv)))
    simp only [Iv.valid, *, Bool.and_false, Bool.and_true, Bool.true_and, Bool.false_and]
theorem fClamp (a : Int) (w : World) : Calls Tryz.prog 120 [.int .i64 a].toArray w (Rets (vI (clampI a)) (w)) := by
  refine calls_of_doC (n := 6) Tryz.func120 rfl rfl rfl ?_
  refine doC_seq ?_
  refine doC_region ?_
  refine doL_v (opV_assign rfl) rfl rfl rfl ?_
  refine doL_nil ?_
  refine post_then ?_
  refine doC_seq ?_
  refine doC_region ?_
  refine doL_v (opV_move rfl) rfl rfl rfl ?_
  refine doL_v (opV_max2 rfl rfl) rfl rfl rfl ?_
  refine doL_v (opV_min2 rfl rfl) rfl rfl rfl ?_
  refine doL_v (opV_assign rfl) rfl rfl rfl ?_
  refine doL_nil ?_
  refine post_then ?_
  refine doC_ret ?_
  refine post_rets (rs := [.tmp 2]) rfl (resC (resIs_tmp rfl) (resN)) (congrArg (vI) (?_ : _ = clampI a))
  first | rfl | (subst_vars; rfl) | (subst_vars; simp_all)
theorem rClamp (a : Int) (w : World) : Calls Tryz.prog 61 [.int .i64 a].toArray w (Rets (vI (clampI a)) (w)) := by
  refine calls_of_doC (n := 6) Tryz.func61 rfl rfl rfl ?_
  refine doC_seq ?_
  refine doC_region ?_
  refine doL_v (opV_assign rfl) rfl rfl rfl ?_
  refine doL_nil ?_
  refine post_then ?_
  refine doC_seq ?_
  refine doC_region ?_
  refine doL_v (opV_move rfl) rfl rfl rfl ?_
  refine doL_v (opV_min2 rfl rfl) rfl rfl rfl ?_
  refine doL_v (opV_max2 rfl rfl) rfl rfl rfl ?_
  refine doL_v (opV_assign rfl) rfl rfl rfl ?_
  refine doL_nil ?_
  refine post_then ?_
  refine doC_ret ?_
  refine post_rets (rs := [.tmp 2]) rfl (resC (resIs_tmp rfl) (resN)) (congrArg (vI) (?_ : _ = clampI a))
  unfold clampI; omega
theorem fShiftDown (a : Int) (k : Int) (h0 : 0 ≤ k ∧ k ≤ 62) (w : World) : Calls Tryz.prog 125 [.int .i64 a, .int .i64 k].toArray w (Rets (vI (a / 2 ^ (k).toNat)) (w)) := by
  refine calls_of_doC (n := 11) Tryz.func125 rfl rfl rfl ?_
  refine doC_seq ?_
  refine doC_region ?_
  refine doL_v (opV_assign rfl) rfl rfl rfl ?_
  refine doL_nil ?_
  refine post_then ?_
  refine doC_seq ?_
  refine doC_seq ?_
  refine doC_region ?_
  refine doL_v (opV_move rfl) rfl rfl rfl ?_
  refine doL_v (opV_lss rfl rfl) rfl rfl rfl ?_
  refine doL_nil ?_
  refine post_then ?_
  refine doC_cond_f rfl (by simp; omega) ?_
  refine doC_skip ?_
  refine post_then ?_
  refine doC_seq ?_
  refine doC_region ?_
  refine doL_v (opV_move rfl) rfl rfl rfl ?_
  refine doL_v (opV_move rfl) rfl rfl rfl ?_
  refine doL_v (opV_shr rfl rfl (by first | decide | omega) (shr_eq (by omega) (by omega))) rfl rfl rfl ?_
  refine doL_v (opV_assign rfl) rfl rfl rfl ?_
  refine doL_nil ?_
  refine post_then ?_
  refine doC_ret ?_
  refine post_rets (rs := [.tmp 4]) rfl (resC (resIs_tmp rfl) (resN)) (congrArg (vI) (?_ : _ = a / 2 ^ (k).toNat))
  first | rfl | (subst_vars; rfl) | (subst_vars; simp_all)
theorem fShiftUp (a : Int) (k : Int) (h0 : 0 ≤ k ∧ k ≤ 62) (ha : In64 a) (w : World) : Calls Tryz.prog 126 [.int .i64 a, .int .i64 k].toArray w (Rets (vI (ceilI a (2 ^ (k).toNat))) (w)) := by
  refine calls_of_doC (n := 20) Tryz.func126 rfl rfl rfl ?_
  refine doC_seq ?_
  refine doC_region ?_
  refine doL_v (opV_assign rfl) rfl rfl rfl ?_
  refine doL_nil ?_
  refine post_then ?_
  refine doC_seq ?_
  refine doC_seq ?_
  refine doC_region ?_
  refine doL_v (opV_move rfl) rfl rfl rfl ?_
  refine doL_v (opV_lss rfl rfl) rfl rfl rfl ?_
  refine doL_nil ?_
  refine post_then ?_
  refine doC_cond_f rfl (by simp; omega) ?_
  refine doC_skip ?_
  refine post_then ?_
  refine doC_seq ?_
  refine doC_region ?_
  refine doL_v (opV_move rfl) rfl rfl rfl ?_
  refine doL_v (opV_move rfl) rfl rfl rfl ?_
  refine doL_v (opV_shr rfl rfl (by first | decide | omega) (shr_eq (by omega) (by omega))) rfl rfl rfl ?_
  refine doL_v (opV_assign rfl) rfl rfl rfl ?_
  refine doL_nil ?_
  refine post_then ?_
  refine doC_seq ?_
  refine doC_seq ?_
  refine doC_region ?_
  refine doL_v (opV_move rfl) rfl rfl rfl ?_
  refine doL_v (opV_move rfl) rfl rfl rfl ?_
  refine doL_v (opV_shl rfl rfl (by first | decide | omega) (shl_eq ha (by omega) (by omega))) rfl rfl rfl ?_
  refine doL_v (opV_move rfl) rfl rfl rfl ?_
  refine doL_v (opV_neq rfl rfl) rfl rfl rfl ?_
  refine doL_nil ?_
  refine post_then ?_
  refine doC_cond rfl (fun hc16 => ?_) (fun hc16 => ?_)
  ·
    have h1 : ¬ a / 2 ^ k.toNat * 2 ^ k.toNat = a := by simpa using hc16
    have h2 := ceil_of_ne (Int.pow_pos (by decide)) h1
    refine doC_region ?_
    refine doL_v (opV_move rfl) rfl rfl rfl ?_
    refine doL_v (opV_add rfl rfl (i64_in (shiftUp_bnd ha h1))) rfl rfl rfl ?_
    refine doL_v (opV_assign rfl) rfl rfl rfl ?_
    refine doL_nil ?_
    refine post_then ?_
    refine doC_seq ?_
    refine doC_region ?_
    refine doL_v (opV_move rfl) rfl rfl rfl ?_
    refine doL_v (opV_assign rfl) rfl rfl rfl ?_
    refine doL_nil ?_
    refine post_then ?_
    refine doC_ret ?_
    refine post_rets (rs := [.tmp 4]) rfl (resC (resIs_tmp rfl) (resN)) (congrArg (vI) (?_ : _ = ceilI a (2 ^ (k).toNat)))
    exact h2
  ·
    have h1 : a / 2 ^ k.toNat * 2 ^ k.toNat = a := by simpa using hc16
    have h2 := ceil_of_mul (Int.pow_pos (by decide)) h1
    refine doC_skip ?_
    refine post_then ?_
    refine doC_seq ?_
    refine doC_region ?_
    refine doL_v (opV_move rfl) rfl rfl rfl ?_
    refine doL_v (opV_assign rfl) rfl rfl rfl ?_
    refine doL_nil ?_
    refine post_then ?_
    refine doC_ret ?_
    refine post_rets (rs := [.tmp 4]) rfl (resC (resIs_tmp rfl) (resN)) (congrArg (vI) (?_ : _ = ceilI a (2 ^ (k).toNat)))
    exact h2
theorem rFloor (a : Int) (b : Int) (ha : In64 a) (hb : 0 < b) (w : World) : Calls Tryz.prog 62 [.int .i64 a, .int .i64 b].toArray w (Rets (vI (a / b)) (w)) := by
  refine calls_of_doC (n := 16) Tryz.func62 rfl rfl rfl ?_
  refine doC_seq ?_
  have hq := tdiv_bnd ha hb
  refine doC_region ?_
  refine doL_v (opV_assign rfl) rfl rfl rfl ?_
  refine doL_nil ?_
  refine post_then ?_
  refine doC_seq ?_
  refine doC_region ?_
  refine doL_v (opV_move rfl) rfl rfl rfl ?_
  refine doL_v (opV_move rfl) rfl rfl rfl ?_
  refine doL_v (opV_quo rfl rfl (by first | decide | omega) (i64_in hq)) rfl rfl rfl ?_
  refine doL_v (opV_assign rfl) rfl rfl rfl ?_
  refine doL_nil ?_
  refine post_then ?_
  refine doC_seq ?_
  refine doC_seq ?_
  refine doC_region ?_
  refine doL_v (opV_move rfl) rfl rfl rfl ?_
  refine doL_v (opV_move rfl) rfl rfl rfl ?_
  refine doL_v (opV_rem rfl rfl (by first | decide | omega) rfl) rfl rfl rfl ?_
  refine doL_v (opV_lss rfl rfl) rfl rfl rfl ?_
  refine doL_nil ?_
  refine post_then ?_
  refine doC_cond rfl (fun hc12 => ?_) (fun hc12 => ?_)
  ·
    refine doC_region ?_
    refine doL_v (opV_move rfl) rfl rfl rfl ?_
    refine doL_v (opV_sub rfl rfl (i64_in (floor_bnd ha hb (by simpa using hc12)))) rfl rfl rfl ?_
    refine doL_v (opV_assign rfl) rfl rfl rfl ?_
    refine doL_nil ?_
    refine post_then ?_
    refine doC_seq ?_
    refine doC_region ?_
    refine doL_v (opV_move rfl) rfl rfl rfl ?_
    refine doL_v (opV_assign rfl) rfl rfl rfl ?_
    refine doL_nil ?_
    refine post_then ?_
    refine doC_ret ?_
    refine post_rets (rs := [.tmp 4]) rfl (resC (resIs_tmp rfl) (resN)) (congrArg (vI) (?_ : _ = a / b))
    exact floor_neg hb (by simpa using hc12)
  ·
    refine doC_skip ?_
    refine post_then ?_
    refine doC_seq ?_
    refine doC_region ?_
    refine doL_v (opV_move rfl) rfl rfl rfl ?_
    refine doL_v (opV_assign rfl) rfl rfl rfl ?_
    refine doL_nil ?_
    refine post_then ?_
    refine doC_ret ?_
    refine post_rets (rs := [.tmp 4]) rfl (resC (resIs_tmp rfl) (resN)) (congrArg (vI) (?_ : _ = a / b))
    exact floor_pos hb (by simpa using hc12)
theorem rCeil (a : Int) (b : Int) (ha : In64 a) (hb : 0 < b) (w : World) : Calls Tryz.prog 63 [.int .i64 a, .int .i64 b].toArray w (Rets (vI (ceilI a b)) (w)) := by
  refine calls_of_doC (n := 16) Tryz.func63 rfl rfl rfl ?_
  refine doC_seq ?_
  have hq := tdiv_bnd ha hb
  refine doC_region ?_
  refine doL_v (opV_assign rfl) rfl rfl rfl ?_
  refine doL_nil ?_
  refine post_then ?_
  refine doC_seq ?_
  refine doC_region ?_
  refine doL_v (opV_move rfl) rfl rfl rfl ?_
  refine doL_v (opV_move rfl) rfl rfl rfl ?_
  refine doL_v (opV_quo rfl rfl (by first | decide | omega) (i64_in hq)) rfl rfl rfl ?_
  refine doL_v (opV_assign rfl) rfl rfl rfl ?_
  refine doL_nil ?_
  refine post_then ?_
  refine doC_seq ?_
  refine doC_seq ?_
  refine doC_region ?_
  refine doL_v (opV_move rfl) rfl rfl rfl ?_
  refine doL_v (opV_move rfl) rfl rfl rfl ?_
  refine doL_v (opV_rem rfl rfl (by first | decide | omega) rfl) rfl rfl rfl ?_
  refine doL_v (opV_gtr rfl rfl) rfl rfl rfl ?_
  refine doL_nil ?_
  refine post_then ?_
  refine doC_cond rfl (fun hc12 => ?_) (fun hc12 => ?_)
  ·
    refine doC_region ?_
    refine doL_v (opV_move rfl) rfl rfl rfl ?_
    refine doL_v (opV_add rfl rfl (i64_in (ceil_bnd ha hb (by simpa using hc12)))) rfl rfl rfl ?_
    refine doL_v (opV_assign rfl) rfl rfl rfl ?_
    refine doL_nil ?_
    refine post_then ?_
    refine doC_seq ?_
    refine doC_region ?_
    refine doL_v (opV_move rfl) rfl rfl rfl ?_
    refine doL_v (opV_assign rfl) rfl rfl rfl ?_
    refine doL_nil ?_
    refine post_then ?_
    refine doC_ret ?_
    refine post_rets (rs := [.tmp 4]) rfl (resC (resIs_tmp rfl) (resN)) (congrArg (vI) (?_ : _ = ceilI a b))
    exact ceil_pos hb (by simpa using hc12)
  ·
    refine doC_skip ?_
    refine post_then ?_
    refine doC_seq ?_
    refine doC_region ?_
    refine doL_v (opV_move rfl) rfl rfl rfl ?_
    refine doL_v (opV_assign rfl) rfl rfl rfl ?_
    refine doL_nil ?_
    refine post_then ?_
    refine doC_ret ?_
    refine post_rets (rs := [.tmp 4]) rfl (resC (resIs_tmp rfl) (resN)) (congrArg (vI) (?_ : _ = ceilI a b))
    exact ceil_neg hb (by simpa using hc12)
theorem iLimited (lo : Int) (hi : Int) (w : World) : Calls Tryz.prog 111 [.int .i64 lo, .int .i64 hi].toArray w (Rets (iv (Iv.limited lo hi)) (w)) := by
  refine calls_of_doC (n := 10) Tryz.func111 rfl rfl rfl ?_
  refine doC_seq ?_
  refine doC_region ?_
  refine doL_alloc 4 ze44 rfl rfl rfl ?_; intro b4
  refine doL_nil ?_
  refine post_then ?_
  refine doC_seq ?_
  refine doC_region ?_
  refine doL_v (opV_move rfl) rfl rfl rfl ?_
  refine doL_vg (F := vI) (opV_call en120 rfl (fun w _ => fClamp _  w)) rfl rfl rfl ?_; intro r6 hr6
  refine doL_v (opV_move rfl) rfl rfl rfl ?_
  refine doL_vg (F := vI) (opV_call en120 rfl (fun w _ => fClamp _  w)) rfl rfl rfl ?_; intro r8 hr8
  refine doL_v (opV_build la44 rfl rfl) rfl rfl rfl ?_
  refine doL_store 4 ty44 rfl rfl rfl rfl rfl rfl rfl rfl ?_
  refine doL_nil ?_
  refine post_then ?_
  refine doC_ret ?_
  refine post_rets (rs := [.cell 4 44]) rfl (resC (resIs_cell 4 rfl rfl ty44 rfl) (resN)) (congrArg (iv) (?_ : ⟨_, _⟩ = Iv.limited lo hi))
  first | rfl | (subst_vars; rfl) | (subst_vars; simp_all)
theorem rLimited (lo : Int) (hi : Int) (w : World) : Calls Tryz.prog 60 [.int .i64 lo, .int .i64 hi].toArray w (Rets (iv (Iv.limited lo hi)) (w)) := by
  refine calls_of_doC (n := 10) Tryz.func60 rfl rfl rfl ?_
  refine doC_seq ?_
  refine doC_region ?_
  refine doL_alloc 4 ze44 rfl rfl rfl ?_; intro b4
  refine doL_nil ?_
  refine post_then ?_
  refine doC_seq ?_
  refine doC_region ?_
  refine doL_v (opV_move rfl) rfl rfl rfl ?_
  refine doL_vg (F := vI) (opV_call en61 rfl (fun w _ => rClamp _  w)) rfl rfl rfl ?_; intro r6 hr6
  refine doL_v (opV_move rfl) rfl rfl rfl ?_
  refine doL_vg (F := vI) (opV_call en61 rfl (fun w _ => rClamp _  w)) rfl rfl rfl ?_; intro r8 hr8
  refine doL_v (opV_build la44 rfl rfl) rfl rfl rfl ?_
  refine doL_store 4 ty44 rfl rfl rfl rfl rfl rfl rfl rfl ?_
  refine doL_nil ?_
  refine post_then ?_
  refine doC_ret ?_
  refine post_rets (rs := [.cell 4 44]) rfl (resC (resIs_cell 4 rfl rfl ty44 rfl) (resN)) (congrArg (iv) (?_ : ⟨_, _⟩ = Iv.limited lo hi))
  first | rfl | (subst_vars; rfl) | (subst_vars; simp_all)
theorem iOf (x : Int) (w : World) : Calls Tryz.prog 84 [.int .i64 x].toArray w (Rets (iv (Iv.of x)) (w)) := by
  refine calls_of_doC (n := 6) Tryz.func84 rfl rfl rfl ?_
  refine doC_seq ?_
  refine doC_region ?_
  refine doL_alloc 2 ze44 rfl rfl rfl ?_; intro b2
  refine doL_nil ?_
  refine post_then ?_
  refine doC_seq ?_
  refine doC_region ?_
  refine doL_v (opV_move rfl) rfl rfl rfl ?_
  refine doL_v (opV_move rfl) rfl rfl rfl ?_
  refine doL_vg (F := iv) (opV_call en111 rfl (fun w _ => iLimited _ _  w)) rfl rfl rfl ?_; intro r5 hr5
  refine doL_store 2 ty44 rfl rfl rfl rfl rfl rfl rfl rfl ?_
  refine doL_nil ?_
  refine post_then ?_
  refine doC_ret ?_
  refine post_rets (rs := [.cell 2 44]) rfl (resC (resIs_cell 2 rfl rfl ty44 rfl) (resN)) (congrArg (iv) (?_ : ⟨_, _⟩ = Iv.of x))
  first | rfl | (subst_vars; rfl) | (subst_vars; simp_all)
theorem rOf (x : Int) (w : World) : Calls Tryz.prog 34 [.int .i64 x].toArray w (Rets (iv (Iv.of x)) (w)) := by
  refine calls_of_doC (n := 8) Tryz.func34 rfl rfl rfl ?_
  refine doC_seq ?_
  refine doC_region ?_
  refine doL_alloc 2 ze44 rfl rfl rfl ?_; intro b2
  refine doL_nil ?_
  refine post_then ?_
  refine doC_seq ?_
  refine doC_region ?_
  refine doL_v (opV_move rfl) rfl rfl rfl ?_
  refine doL_vg (F := vI) (opV_call en61 rfl (fun w _ => rClamp _  w)) rfl rfl rfl ?_; intro r4 hr4
  refine doL_v (opV_move rfl) rfl rfl rfl ?_
  refine doL_vg (F := vI) (opV_call en61 rfl (fun w _ => rClamp _  w)) rfl rfl rfl ?_; intro r6 hr6
  refine doL_v (opV_build la44 rfl rfl) rfl rfl rfl ?_
  refine doL_store 2 ty44 rfl rfl rfl rfl rfl rfl rfl rfl ?_
  refine doL_nil ?_
  refine post_then ?_
  refine doC_ret ?_
  refine post_rets (rs := [.cell 2 44]) rfl (resC (resIs_cell 2 rfl rfl ty44 rfl) (resN)) (congrArg (iv) (?_ : ⟨_, _⟩ = Iv.of x))
  first | rfl | (subst_vars; rfl) | (subst_vars; simp_all)
theorem iNeg (a0 a1 : Int) (w : World) : Calls Tryz.prog 129 [.agg #[.int .i64 a0, .int .i64 a1]].toArray w (Rets (iv (Iv.neg (⟨a0, a1⟩ : Iv))) (w)) := by
  refine calls_of_doC (n := 14) Tryz.func129 rfl rfl rfl ?_
  refine doC_seq ?_
  refine doC_region ?_
  refine doL_box 1 rfl rfl rfl rfl ?_; intro b1
  refine doL_alloc 2 ze44 rfl rfl rfl ?_; intro b2
  refine doL_nil ?_
  refine post_then ?_
  refine doC_seq ?_
  refine doC_seq ?_
  refine doC_region ?_
  refine doL_v (opV_loadA 1 ty44 rfl rfl rfl) rfl rfl rfl ?_
  refine doL_vg (F := vB) (opV_call en51 rfl (fun w _ => iValid _ _  w)) rfl rfl rfl ?_; intro r4 hr4
  refine doL_v (opV_not rfl) rfl rfl rfl ?_
  refine doL_nil ?_
  refine post_then ?_
  refine doC_cond rfl (fun hc5 => ?_) (fun hc5 => ?_)
  ·
    simp only [Bool.not_eq_true'] at hc5
    refine doC_seq ?_
    refine doC_region ?_
    refine doL_v (opV_build la44 rfl rfl) rfl rfl rfl ?_
    refine doL_store 2 ty44 rfl rfl rfl rfl rfl rfl rfl rfl ?_
    refine doL_nil ?_
    refine post_then ?_
    refine doC_ret ?_
    refine post_then_ret ?_
    refine post_rets (rs := [.cell 2 44]) rfl (resC (resIs_cell 2 rfl rfl ty44 rfl) (resN)) (congrArg (iv) (?_ : ⟨_, _⟩ = Iv.neg (⟨a0, a1⟩ : Iv)))
    subst_vars; first | (simp_all [Iv.neg]; done) | (simp_all [Iv.neg] <;> omega) | grind [Iv.neg]
  ·
    simp only [Bool.not_eq_false'] at hc5
    have hv := valid_mk (hr4.symm.trans hc5)
    refine doC_skip ?_
    refine post_then ?_
    refine doC_seq ?_
    refine doC_region ?_
    refine doL_v (opV_fieldAddr fa44_1 rfl) rfl rfl rfl ?_
    refine doL_v (opV_load1 1 ty2 rfl rfl rfl) rfl rfl rfl ?_
    refine doL_v (opV_neg rfl (by first | exact neg_in ⟨by omega, by omega⟩ | rfl)) rfl rfl rfl ?_
    refine doL_v (opV_fieldAddr fa44_0 rfl) rfl rfl rfl ?_
    refine doL_v (opV_load1 1 ty2 rfl rfl rfl) rfl rfl rfl ?_
    refine doL_v (opV_neg rfl (by first | exact neg_in ⟨by omega, by omega⟩ | rfl)) rfl rfl rfl ?_
    refine doL_v (opV_build la44 rfl rfl) rfl rfl rfl ?_
    refine doL_store 2 ty44 rfl rfl rfl rfl rfl rfl rfl rfl ?_
    refine doL_nil ?_
    refine post_then ?_
    refine doC_ret ?_
    refine post_rets (rs := [.cell 2 44]) rfl (resC (resIs_cell 2 rfl rfl ty44 rfl) (resN)) (congrArg (iv) (?_ : ⟨_, _⟩ = Iv.neg (⟨a0, a1⟩ : Iv)))
    subst_vars; first | (simp_all [Iv.neg]; done) | (simp_all [Iv.neg] <;> omega) | grind [Iv.neg]
theorem iValid2 (a0 a1 : Int) (b0 b1 : Int) (w : World) : Calls Tryz.prog 118 [.agg #[.int .i64 a0, .int .i64 a1], .agg #[.int .i64 b0, .int .i64 b1]].toArray w (Rets (vB ((Iv.valid (⟨a0, a1⟩ : Iv) && Iv.valid (⟨b0, b1⟩ : Iv)))) (w)) := by
  refine calls_of_doC (n := 11) Tryz.func118 rfl rfl rfl ?_
  refine doC_seq ?_
  refine doC_region ?_
  refine doL_box 2 rfl rfl rfl rfl ?_; intro b2
  refine doL_box 3 rfl rfl rfl rfl ?_; intro b3
  refine doL_v (opV_assign rfl) rfl rfl rfl ?_
  refine doL_nil ?_
  refine post_then ?_
  refine doC_seq ?_
  refine doC_region ?_
  refine doL_v (opV_loadA 2 ty44 rfl rfl rfl) rfl rfl rfl ?_
  refine doL_vg (F := vB) (opV_call en51 rfl (fun w _ => iValid _ _  w)) rfl rfl rfl ?_; intro r6 hr6
  refine doL_v (opV_move rfl) rfl rfl rfl ?_
  refine doL_split 7 rfl (fun hg7 => ?_) (fun hg7 => ?_)
  ·
    refine doL_v (opV_loadA 3 ty44 rfl rfl rfl) rfl rfl rfl ?_
    refine doL_vg (F := vB) (opV_call en51 rfl (fun w _ => iValid _ _  w)) rfl rfl rfl ?_; intro r9 hr9
    refine doL_v (opV_pick_t rfl rfl rfl rfl) rfl rfl rfl ?_
    refine doL_v (opV_assign rfl) rfl rfl rfl ?_
    refine doL_nil ?_
    refine post_then ?_
    refine doC_ret ?_
    refine post_rets (rs := [.tmp 4]) rfl (resC (resIs_tmp rfl) (resN)) (congrArg (vB) (?_ : _ = (Iv.valid (⟨a0, a1⟩ : Iv) && Iv.valid (⟨b0, b1⟩ : Iv))))
    subst_vars; simp_all
  ·
    refine doL_skip rfl rfl rfl ?_
    refine doL_skip rfl rfl rfl ?_
    refine doL_v (opV_pick_f rfl rfl rfl rfl) rfl rfl rfl ?_
    refine doL_v (opV_assign rfl) rfl rfl rfl ?_
    refine doL_nil ?_
    refine post_then ?_
    refine doC_ret ?_
    refine post_rets (rs := [.tmp 4]) rfl (resC (resIs_tmp rfl) (resN)) (congrArg (vB) (?_ : _ = (Iv.valid (⟨a0, a1⟩ : Iv) && Iv.valid (⟨b0, b1⟩ : Iv))))
    subst_vars; simp_all
theorem rAdd (a0 a1 : Int) (b0 b1 : Int) (w : World) : Calls Tryz.prog 36 [.agg #[.int .i64 a0, .int .i64 a1], .agg #[.int .i64 b0, .int .i64 b1]].toArray w (Rets (iv (Iv.add (⟨a0, a1⟩ : Iv) (⟨b0, b1⟩ : Iv))) (w)) := by
  refine calls_of_doC (n := 25) Tryz.func36 rfl rfl rfl ?_
  refine doC_seq ?_
  refine doC_region ?_
  refine doL_box 2 rfl rfl rfl rfl ?_; intro b2
  refine doL_box 3 rfl rfl rfl rfl ?_; intro b3
  refine doL_alloc 4 ze44 rfl rfl rfl ?_; intro b4
  refine doL_nil ?_
  refine post_then ?_
  refine doC_seq ?_
  refine doC_seq ?_
  refine doC_region ?_
  refine doL_v (opV_loadA 2 ty44 rfl rfl rfl) rfl rfl rfl ?_
  refine doL_vg (F := vB) (opV_call en35 rfl (fun w _ => rValid _ _  w)) rfl rfl rfl ?_; intro r6 hr6
  refine doL_v (opV_not rfl) rfl rfl rfl ?_
  refine doL_v (opV_move rfl) rfl rfl rfl ?_
  refine doL_split 8 rfl (fun hg8 => ?_) (fun hg8 => ?_)
  ·
    refine doL_skip rfl rfl rfl ?_
    refine doL_skip rfl rfl rfl ?_
    refine doL_skip rfl rfl rfl ?_
    refine doL_v (opV_pick_t rfl rfl rfl rfl) rfl rfl rfl ?_
    refine doL_nil ?_
    refine post_then ?_
    refine doC_cond_t rfl (rfl) ?_
    refine doC_seq ?_
    refine doC_region ?_
    refine doL_v (opV_build la44 rfl rfl) rfl rfl rfl ?_
    refine doL_store 4 ty44 rfl rfl rfl rfl rfl rfl rfl rfl ?_
    refine doL_nil ?_
    refine post_then ?_
    refine doC_ret ?_
    refine post_then_ret ?_
    refine post_rets (rs := [.cell 4 44]) rfl (resC (resIs_cell 4 rfl rfl ty44 rfl) (resN)) (congrArg (iv) (?_ : ⟨_, _⟩ = Iv.add (⟨a0, a1⟩ : Iv) (⟨b0, b1⟩ : Iv)))
    subst_vars; first | (simp_all [Iv.add, Iv.limited]; done) | (simp_all [Iv.add, Iv.limited] <;> omega) | grind [Iv.add, Iv.limited]
  ·
    refine doL_v (opV_loadA 3 ty44 rfl rfl rfl) rfl rfl rfl ?_
    refine doL_vg (F := vB) (opV_call en35 rfl (fun w _ => rValid _ _  w)) rfl rfl rfl ?_; intro r10 hr10
    refine doL_v (opV_not rfl) rfl rfl rfl ?_
    refine doL_v (opV_pick_f rfl rfl rfl rfl) rfl rfl rfl ?_
    refine doL_nil ?_
    refine post_then ?_
    refine doC_cond rfl (fun hc12 => ?_) (fun hc12 => ?_)
    ·
      refine doC_seq ?_
      refine doC_region ?_
      refine doL_v (opV_build la44 rfl rfl) rfl rfl rfl ?_
      refine doL_store 4 ty44 rfl rfl rfl rfl rfl rfl rfl rfl ?_
      refine doL_nil ?_
      refine post_then ?_
      refine doC_ret ?_
      refine post_then_ret ?_
      refine post_rets (rs := [.cell 4 44]) rfl (resC (resIs_cell 4 rfl rfl ty44 rfl) (resN)) (congrArg (iv) (?_ : ⟨_, _⟩ = Iv.add (⟨a0, a1⟩ : Iv) (⟨b0, b1⟩ : Iv)))
      subst_vars; first | (simp_all [Iv.add, Iv.limited]; done) | (simp_all [Iv.add, Iv.limited] <;> omega) | grind [Iv.add, Iv.limited]
    ·
      refine doC_skip ?_
      refine post_then ?_
      refine doC_seq ?_
      have ha := valid_mk (hr6.symm.trans (by simpa using hg8))
      have hb := valid_mk (hr10.symm.trans (by simpa using hc12))
      refine doC_region ?_
      refine doL_v (opV_fieldAddr fa44_0 rfl) rfl rfl rfl ?_
      refine doL_v (opV_load1 2 ty2 rfl rfl rfl) rfl rfl rfl ?_
      refine doL_v (opV_fieldAddr fa44_0 rfl) rfl rfl rfl ?_
      refine doL_v (opV_load1 3 ty2 rfl rfl rfl) rfl rfl rfl ?_
      refine doL_v (opV_add rfl rfl (by first | exact i64_in ⟨by omega, by omega⟩ | rfl)) rfl rfl rfl ?_
      refine doL_v (opV_fieldAddr fa44_1 rfl) rfl rfl rfl ?_
      refine doL_v (opV_load1 2 ty2 rfl rfl rfl) rfl rfl rfl ?_
      refine doL_v (opV_fieldAddr fa44_1 rfl) rfl rfl rfl ?_
      refine doL_v (opV_load1 3 ty2 rfl rfl rfl) rfl rfl rfl ?_
      refine doL_v (opV_add rfl rfl (by first | exact i64_in ⟨by omega, by omega⟩ | rfl)) rfl rfl rfl ?_
      refine doL_vg (F := iv) (opV_call en60 rfl (fun w _ => rLimited _ _  w)) rfl rfl rfl ?_; intro r24 hr24
      refine doL_store 4 ty44 rfl rfl rfl rfl rfl rfl rfl rfl ?_
      refine doL_nil ?_
      refine post_then ?_
      refine doC_ret ?_
      refine post_rets (rs := [.cell 4 44]) rfl (resC (resIs_cell 4 rfl rfl ty44 rfl) (resN)) (congrArg (iv) (?_ : ⟨_, _⟩ = Iv.add (⟨a0, a1⟩ : Iv) (⟨b0, b1⟩ : Iv)))
      subst_vars; first | (simp_all [Iv.add, Iv.limited]; done) | (simp_all [Iv.add, Iv.limited] <;> omega) | grind [Iv.add, Iv.limited]
theorem rSub (a0 a1 : Int) (b0 b1 : Int) (w : World) : Calls Tryz.prog 33 [.agg #[.int .i64 a0, .int .i64 a1], .agg #[.int .i64 b0, .int .i64 b1]].toArray w (Rets (iv (Iv.sub (⟨a0, a1⟩ : Iv) (⟨b0, b1⟩ : Iv))) (w)) := by
  refine calls_of_doC (n := 25) Tryz.func33 rfl rfl rfl ?_
  refine doC_seq ?_
  refine doC_region ?_
  refine doL_box 2 rfl rfl rfl rfl ?_; intro b2
  refine doL_box 3 rfl rfl rfl rfl ?_; intro b3
  refine doL_alloc 4 ze44 rfl rfl rfl ?_; intro b4
  refine doL_nil ?_
  refine post_then ?_
  refine doC_seq ?_
  refine doC_seq ?_
  refine doC_region ?_
  refine doL_v (opV_loadA 2 ty44 rfl rfl rfl) rfl rfl rfl ?_
  refine doL_vg (F := vB) (opV_call en35 rfl (fun w _ => rValid _ _  w)) rfl rfl rfl ?_; intro r6 hr6
  refine doL_v (opV_not rfl) rfl rfl rfl ?_
  refine doL_v (opV_move rfl) rfl rfl rfl ?_
  refine doL_split 8 rfl (fun hg8 => ?_) (fun hg8 => ?_)
  ·
    refine doL_skip rfl rfl rfl ?_
    refine doL_skip rfl rfl rfl ?_
    refine doL_skip rfl rfl rfl ?_
    refine doL_v (opV_pick_t rfl rfl rfl rfl) rfl rfl rfl ?_
    refine doL_nil ?_
    refine post_then ?_
    refine doC_cond_t rfl (rfl) ?_
    refine doC_seq ?_
    refine doC_region ?_
    refine doL_v (opV_build la44 rfl rfl) rfl rfl rfl ?_
    refine doL_store 4 ty44 rfl rfl rfl rfl rfl rfl rfl rfl ?_
    refine doL_nil ?_
    refine post_then ?_
    refine doC_ret ?_
    refine post_then_ret ?_
    refine post_rets (rs := [.cell 4 44]) rfl (resC (resIs_cell 4 rfl rfl ty44 rfl) (resN)) (congrArg (iv) (?_ : ⟨_, _⟩ = Iv.sub (⟨a0, a1⟩ : Iv) (⟨b0, b1⟩ : Iv)))
    subst_vars; first | (simp_all [Iv.sub, Iv.limited]; done) | (simp_all [Iv.sub, Iv.limited] <;> omega) | grind [Iv.sub, Iv.limited]
  ·
    refine doL_v (opV_loadA 3 ty44 rfl rfl rfl) rfl rfl rfl ?_
    refine doL_vg (F := vB) (opV_call en35 rfl (fun w _ => rValid _ _  w)) rfl rfl rfl ?_; intro r10 hr10
    refine doL_v (opV_not rfl) rfl rfl rfl ?_
    refine doL_v (opV_pick_f rfl rfl rfl rfl) rfl rfl rfl ?_
    refine doL_nil ?_
    refine post_then ?_
    refine doC_cond rfl (fun hc12 => ?_) (fun hc12 => ?_)
    ·
      refine doC_seq ?_
      refine doC_region ?_
      refine doL_v (opV_build la44 rfl rfl) rfl rfl rfl ?_
      refine doL_store 4 ty44 rfl rfl rfl rfl rfl rfl rfl rfl ?_
      refine doL_nil ?_
      refine post_then ?_
      refine doC_ret ?_
      refine post_then_ret ?_
      refine post_rets (rs := [.cell 4 44]) rfl (resC (resIs_cell 4 rfl rfl ty44 rfl) (resN)) (congrArg (iv) (?_ : ⟨_, _⟩ = Iv.sub (⟨a0, a1⟩ : Iv) (⟨b0, b1⟩ : Iv)))
      subst_vars; first | (simp_all [Iv.sub, Iv.limited]; done) | (simp_all [Iv.sub, Iv.limited] <;> omega) | grind [Iv.sub, Iv.limited]
    ·
      refine doC_skip ?_
      refine post_then ?_
      refine doC_seq ?_
      have ha := valid_mk (hr6.symm.trans (by simpa using hg8))
      have hb := valid_mk (hr10.symm.trans (by simpa using hc12))
      refine doC_region ?_
      refine doL_v (opV_fieldAddr fa44_0 rfl) rfl rfl rfl ?_
      refine doL_v (opV_load1 2 ty2 rfl rfl rfl) rfl rfl rfl ?_
      refine doL_v (opV_fieldAddr fa44_1 rfl) rfl rfl rfl ?_
      refine doL_v (opV_load1 3 ty2 rfl rfl rfl) rfl rfl rfl ?_
      refine doL_v (opV_sub rfl rfl (by first | exact i64_in ⟨by omega, by omega⟩ | rfl)) rfl rfl rfl ?_
      refine doL_v (opV_fieldAddr fa44_1 rfl) rfl rfl rfl ?_
      refine doL_v (opV_load1 2 ty2 rfl rfl rfl) rfl rfl rfl ?_
      refine doL_v (opV_fieldAddr fa44_0 rfl) rfl rfl rfl ?_
      refine doL_v (opV_load1 3 ty2 rfl rfl rfl) rfl rfl rfl ?_
      refine doL_v (opV_sub rfl rfl (by first | exact i64_in ⟨by omega, by omega⟩ | rfl)) rfl rfl rfl ?_
      refine doL_vg (F := iv) (opV_call en60 rfl (fun w _ => rLimited _ _  w)) rfl rfl rfl ?_; intro r24 hr24
      refine doL_store 4 ty44 rfl rfl rfl rfl rfl rfl rfl rfl ?_
      refine doL_nil ?_
      refine post_then ?_
      refine doC_ret ?_
      refine post_rets (rs := [.cell 4 44]) rfl (resC (resIs_cell 4 rfl rfl ty44 rfl) (resN)) (congrArg (iv) (?_ : ⟨_, _⟩ = Iv.sub (⟨a0, a1⟩ : Iv) (⟨b0, b1⟩ : Iv)))
      subst_vars; first | (simp_all [Iv.sub, Iv.limited]; done) | (simp_all [Iv.sub, Iv.limited] <;> omega) | grind [Iv.sub, Iv.limited]
theorem iAdd (a0 a1 : Int) (b0 b1 : Int) (w : World) : Calls Tryz.prog 108 [.agg #[.int .i64 a0, .int .i64 a1], .agg #[.int .i64 b0, .int .i64 b1]].toArray w (Rets (iv (Iv.add (⟨a0, a1⟩ : Iv) (⟨b0, b1⟩ : Iv))) (w)) := by
  refine calls_of_doC (n := 21) Tryz.func108 rfl rfl rfl ?_
  refine doC_seq ?_
  refine doC_region ?_
  refine doL_box 2 rfl rfl rfl rfl ?_; intro b2
  refine doL_box 3 rfl rfl rfl rfl ?_; intro b3
  refine doL_alloc 4 ze44 rfl rfl rfl ?_; intro b4
  refine doL_nil ?_
  refine post_then ?_
  refine doC_seq ?_
  refine doC_seq ?_
  refine doC_region ?_
  refine doL_v (opV_loadA 2 ty44 rfl rfl rfl) rfl rfl rfl ?_
  refine doL_v (opV_loadA 3 ty44 rfl rfl rfl) rfl rfl rfl ?_
  refine doL_vg (F := vB) (opV_call en118 rfl (fun w _ => iValid2 _ _ _ _  w)) rfl rfl rfl ?_; intro r7 hr7
  refine doL_v (opV_not rfl) rfl rfl rfl ?_
  refine doL_nil ?_
  refine post_then ?_
  refine doC_cond rfl (fun hc8 => ?_) (fun hc8 => ?_)
  ·
    refine doC_seq ?_
    refine doC_region ?_
    refine doL_v (opV_build la44 rfl rfl) rfl rfl rfl ?_
    refine doL_store 4 ty44 rfl rfl rfl rfl rfl rfl rfl rfl ?_
    refine doL_nil ?_
    refine post_then ?_
    refine doC_ret ?_
    refine post_then_ret ?_
    refine post_rets (rs := [.cell 4 44]) rfl (resC (resIs_cell 4 rfl rfl ty44 rfl) (resN)) (congrArg (iv) (?_ : ⟨_, _⟩ = Iv.add (⟨a0, a1⟩ : Iv) (⟨b0, b1⟩ : Iv)))
    subst_vars; first | (simp_all [Iv.add, Iv.limited]; done) | (simp_all [Iv.add, Iv.limited] <;> omega) | grind [Iv.add, Iv.limited]
  ·
    refine doC_skip ?_
    refine post_then ?_
    refine doC_seq ?_
    have hv := hr7.symm.trans (by simpa using hc8)
    rw [Bool.and_eq_true] at hv
    have ha := valid_mk hv.1
    have hb := valid_mk hv.2
    refine doC_region ?_
    refine doL_v (opV_fieldAddr fa44_0 rfl) rfl rfl rfl ?_
    refine doL_v (opV_load1 2 ty2 rfl rfl rfl) rfl rfl rfl ?_
    refine doL_v (opV_fieldAddr fa44_0 rfl) rfl rfl rfl ?_
    refine doL_v (opV_load1 3 ty2 rfl rfl rfl) rfl rfl rfl ?_
    refine doL_v (opV_add rfl rfl (by first | exact i64_in ⟨by omega, by omega⟩ | rfl)) rfl rfl rfl ?_
    refine doL_v (opV_fieldAddr fa44_1 rfl) rfl rfl rfl ?_
    refine doL_v (opV_load1 2 ty2 rfl rfl rfl) rfl rfl rfl ?_
    refine doL_v (opV_fieldAddr fa44_1 rfl) rfl rfl rfl ?_
    refine doL_v (opV_load1 3 ty2 rfl rfl rfl) rfl rfl rfl ?_
    refine doL_v (opV_add rfl rfl (by first | exact i64_in ⟨by omega, by omega⟩ | rfl)) rfl rfl rfl ?_
    refine doL_vg (F := iv) (opV_call en111 rfl (fun w _ => iLimited _ _  w)) rfl rfl rfl ?_; intro r20 hr20
    refine doL_store 4 ty44 rfl rfl rfl rfl rfl rfl rfl rfl ?_
    refine doL_nil ?_
    refine post_then ?_
    refine doC_ret ?_
    refine post_rets (rs := [.cell 4 44]) rfl (resC (resIs_cell 4 rfl rfl ty44 rfl) (resN)) (congrArg (iv) (?_ : ⟨_, _⟩ = Iv.add (⟨a0, a1⟩ : Iv) (⟨b0, b1⟩ : Iv)))
    subst_vars; first | (simp_all [Iv.add, Iv.limited]; done) | (simp_all [Iv.add, Iv.limited] <;> omega) | grind [Iv.add, Iv.limited]
theorem iHull (a0 a1 : Int) (b0 b1 : Int) (w : World) : Calls Tryz.prog 141 [.agg #[.int .i64 a0, .int .i64 a1], .agg #[.int .i64 b0, .int .i64 b1]].toArray w (Rets (iv (Iv.hull (⟨a0, a1⟩ : Iv) (⟨b0, b1⟩ : Iv))) (w)) := by
  refine calls_of_doC (n := 21) Tryz.func141 rfl rfl rfl ?_
  refine doC_seq ?_
  refine doC_region ?_
  refine doL_box 2 rfl rfl rfl rfl ?_; intro b2
  refine doL_box 3 rfl rfl rfl rfl ?_; intro b3
  refine doL_alloc 4 ze44 rfl rfl rfl ?_; intro b4
  refine doL_nil ?_
  refine post_then ?_
  refine doC_seq ?_
  refine doC_seq ?_
  refine doC_region ?_
  refine doL_v (opV_loadA 2 ty44 rfl rfl rfl) rfl rfl rfl ?_
  refine doL_v (opV_loadA 3 ty44 rfl rfl rfl) rfl rfl rfl ?_
  refine doL_vg (F := vB) (opV_call en118 rfl (fun w _ => iValid2 _ _ _ _  w)) rfl rfl rfl ?_; intro r7 hr7
  refine doL_v (opV_not rfl) rfl rfl rfl ?_
  refine doL_nil ?_
  refine post_then ?_
  refine doC_cond rfl (fun hc8 => ?_) (fun hc8 => ?_)
  ·
    refine doC_seq ?_
    refine doC_region ?_
    refine doL_v (opV_build la44 rfl rfl) rfl rfl rfl ?_
    refine doL_store 4 ty44 rfl rfl rfl rfl rfl rfl rfl rfl ?_
    refine doL_nil ?_
    refine post_then ?_
    refine doC_ret ?_
    refine post_then_ret ?_
    refine post_rets (rs := [.cell 4 44]) rfl (resC (resIs_cell 4 rfl rfl ty44 rfl) (resN)) (congrArg (iv) (?_ : ⟨_, _⟩ = Iv.hull (⟨a0, a1⟩ : Iv) (⟨b0, b1⟩ : Iv)))
    subst_vars; first | (simp_all [Iv.hull]; done) | (simp_all [Iv.hull] <;> omega) | grind [Iv.hull]
  ·
    refine doC_skip ?_
    refine post_then ?_
    refine doC_seq ?_
    refine doC_region ?_
    refine doL_v (opV_fieldAddr fa44_0 rfl) rfl rfl rfl ?_
    refine doL_v (opV_load1 2 ty2 rfl rfl rfl) rfl rfl rfl ?_
    refine doL_v (opV_fieldAddr fa44_0 rfl) rfl rfl rfl ?_
    refine doL_v (opV_load1 3 ty2 rfl rfl rfl) rfl rfl rfl ?_
    refine doL_v (opV_min2 rfl rfl) rfl rfl rfl ?_
    refine doL_v (opV_fieldAddr fa44_1 rfl) rfl rfl rfl ?_
    refine doL_v (opV_load1 2 ty2 rfl rfl rfl) rfl rfl rfl ?_
    refine doL_v (opV_fieldAddr fa44_1 rfl) rfl rfl rfl ?_
    refine doL_v (opV_load1 3 ty2 rfl rfl rfl) rfl rfl rfl ?_
    refine doL_v (opV_max2 rfl rfl) rfl rfl rfl ?_
    refine doL_v (opV_build la44 rfl rfl) rfl rfl rfl ?_
    refine doL_store 4 ty44 rfl rfl rfl rfl rfl rfl rfl rfl ?_
    refine doL_nil ?_
    refine post_then ?_
    refine doC_ret ?_
    refine post_rets (rs := [.cell 4 44]) rfl (resC (resIs_cell 4 rfl rfl ty44 rfl) (resN)) (congrArg (iv) (?_ : ⟨_, _⟩ = Iv.hull (⟨a0, a1⟩ : Iv) (⟨b0, b1⟩ : Iv)))
    subst_vars; first | (simp_all [Iv.hull]; done) | (simp_all [Iv.hull] <;> omega) | grind [Iv.hull]
theorem iWidth (a0 a1 : Int) (w : World) : Calls Tryz.prog 140 [.agg #[.int .i64 a0, .int .i64 a1]].toArray w (Rets (vI (Iv.width (⟨a0, a1⟩ : Iv))) (w)) := by
  refine calls_of_doC (n := 11) Tryz.func140 rfl rfl rfl ?_
  refine doC_seq ?_
  refine doC_region ?_
  refine doL_box 1 rfl rfl rfl rfl ?_; intro b1
  refine doL_v (opV_assign rfl) rfl rfl rfl ?_
  refine doL_nil ?_
  refine post_then ?_
  refine doC_seq ?_
  refine doC_seq ?_
  refine doC_region ?_
  refine doL_v (opV_loadA 1 ty44 rfl rfl rfl) rfl rfl rfl ?_
  refine doL_vg (F := vB) (opV_call en51 rfl (fun w _ => iValid _ _  w)) rfl rfl rfl ?_; intro r4 hr4
  refine doL_v (opV_not rfl) rfl rfl rfl ?_
  refine doL_nil ?_
  refine post_then ?_
  refine doC_cond rfl (fun hc5 => ?_) (fun hc5 => ?_)
  ·
    refine doC_seq ?_
    refine doC_region ?_
    refine doL_v (opV_assign rfl) rfl rfl rfl ?_
    refine doL_nil ?_
    refine post_then ?_
    refine doC_ret ?_
    refine post_then_ret ?_
    refine post_rets (rs := [.tmp 2]) rfl (resC (resIs_tmp rfl) (resN)) (congrArg (vI) (?_ : _ = Iv.width (⟨a0, a1⟩ : Iv)))
    subst_vars; first | (simp_all [Iv.width]; done) | (simp_all [Iv.width] <;> omega) | grind [Iv.width]
  ·
    refine doC_skip ?_
    refine post_then ?_
    refine doC_seq ?_
    have ha := valid_mk (hr4.symm.trans (by simpa using hc5))
    refine doC_region ?_
    refine doL_v (opV_fieldAddr fa44_1 rfl) rfl rfl rfl ?_
    refine doL_v (opV_load1 1 ty2 rfl rfl rfl) rfl rfl rfl ?_
    refine doL_v (opV_fieldAddr fa44_0 rfl) rfl rfl rfl ?_
    refine doL_v (opV_load1 1 ty2 rfl rfl rfl) rfl rfl rfl ?_
    refine doL_v (opV_sub rfl rfl (by first | exact i64_in ⟨by omega, by omega⟩ | rfl)) rfl rfl rfl ?_
    refine doL_v (opV_assign rfl) rfl rfl rfl ?_
    refine doL_nil ?_
    refine post_then ?_
    refine doC_ret ?_
    refine post_rets (rs := [.tmp 2]) rfl (resC (resIs_tmp rfl) (resN)) (congrArg (vI) (?_ : _ = Iv.width (⟨a0, a1⟩ : Iv)))
    subst_vars; first | (simp_all [Iv.width]; done) | (simp_all [Iv.width] <;> omega) | grind [Iv.width]
theorem iHas (a0 a1 : Int) (x : Int) (w : World) : Calls Tryz.prog 147 [.agg #[.int .i64 a0, .int .i64 a1], .int .i64 x].toArray w (Rets (vB (Iv.has (⟨a0, a1⟩ : Iv) x)) (w)) := by
  refine calls_of_doC (n := 19) Tryz.func147 rfl rfl rfl ?_
  refine doC_seq ?_
  refine doC_region ?_
  refine doL_box 2 rfl rfl rfl rfl ?_; intro b2
  refine doL_v (opV_assign rfl) rfl rfl rfl ?_
  refine doL_nil ?_
  refine post_then ?_
  refine doC_seq ?_
  refine doC_region ?_
  refine doL_v (opV_loadA 2 ty44 rfl rfl rfl) rfl rfl rfl ?_
  refine doL_vg (F := vB) (opV_call en51 rfl (fun w _ => iValid _ _  w)) rfl rfl rfl ?_; intro r6 hr6
  refine doL_v (opV_move rfl) rfl rfl rfl ?_
  refine doL_split 7 rfl (fun hg7 => ?_) (fun hg7 => ?_)
  ·
    refine doL_v (opV_fieldAddr fa44_0 rfl) rfl rfl rfl ?_
    refine doL_v (opV_load1 2 ty2 rfl rfl rfl) rfl rfl rfl ?_
    refine doL_v (opV_move rfl) rfl rfl rfl ?_
    refine doL_v (opV_leq rfl rfl) rfl rfl rfl ?_
    refine doL_v (opV_pick_t rfl rfl rfl rfl) rfl rfl rfl ?_
    refine doL_v (opV_move rfl) rfl rfl rfl ?_
    refine doL_split 13 rfl (fun hg13 => ?_) (fun hg13 => ?_)
    ·
      refine doL_v (opV_move rfl) rfl rfl rfl ?_
      refine doL_v (opV_fieldAddr fa44_1 rfl) rfl rfl rfl ?_
      refine doL_v (opV_load1 2 ty2 rfl rfl rfl) rfl rfl rfl ?_
      refine doL_v (opV_leq rfl rfl) rfl rfl rfl ?_
      refine doL_v (opV_pick_t rfl rfl rfl rfl) rfl rfl rfl ?_
      refine doL_v (opV_assign rfl) rfl rfl rfl ?_
      refine doL_nil ?_
      refine post_then ?_
      refine doC_ret ?_
      refine post_rets (rs := [.tmp 4]) rfl (resC (resIs_tmp rfl) (resN)) (congrArg (vB) (?_ : _ = Iv.has (⟨a0, a1⟩ : Iv) x))
      subst_vars; first | (simp_all [Iv.has]; done) | (simp_all [Iv.has] <;> omega) | grind [Iv.has]
    ·
      refine doL_skip rfl rfl rfl ?_
      refine doL_skip rfl rfl rfl ?_
      refine doL_skip rfl rfl rfl ?_
      refine doL_skip rfl rfl rfl ?_
      refine doL_v (opV_pick_f rfl rfl rfl rfl) rfl rfl rfl ?_
      refine doL_v (opV_assign rfl) rfl rfl rfl ?_
      refine doL_nil ?_
      refine post_then ?_
      refine doC_ret ?_
      refine post_rets (rs := [.tmp 4]) rfl (resC (resIs_tmp rfl) (resN)) (congrArg (vB) (?_ : _ = Iv.has (⟨a0, a1⟩ : Iv) x))
      subst_vars; first | (simp_all [Iv.has]; done) | (simp_all [Iv.has] <;> omega) | grind [Iv.has]
  ·
    refine doL_skip rfl rfl rfl ?_
    refine doL_skip rfl rfl rfl ?_
    refine doL_skip rfl rfl rfl ?_
    refine doL_skip rfl rfl rfl ?_
    refine doL_v (opV_pick_f rfl rfl rfl rfl) rfl rfl rfl ?_
    refine doL_v (opV_move rfl) rfl rfl rfl ?_
    refine doL_skip rfl rfl rfl ?_
    refine doL_skip rfl rfl rfl ?_
    refine doL_skip rfl rfl rfl ?_
    refine doL_skip rfl rfl rfl ?_
    refine doL_v (opV_pick_f rfl rfl rfl rfl) rfl rfl rfl ?_
    refine doL_v (opV_assign rfl) rfl rfl rfl ?_
    refine doL_nil ?_
    refine post_then ?_
    refine doC_ret ?_
    refine post_rets (rs := [.tmp 4]) rfl (resC (resIs_tmp rfl) (resN)) (congrArg (vB) (?_ : _ = Iv.has (⟨a0, a1⟩ : Iv) x))
    subst_vars; first | (simp_all [Iv.has]; done) | (simp_all [Iv.has] <;> omega) | grind [Iv.has]
theorem rMeet (a0 a1 : Int) (b0 b1 : Int) (w : World) : Calls Tryz.prog 13 [.agg #[.int .i64 a0, .int .i64 a1], .agg #[.int .i64 b0, .int .i64 b1]].toArray w (Rets (ivB (Iv.meet (⟨a0, a1⟩ : Iv) (⟨b0, b1⟩ : Iv))) (w)) := by
  refine calls_of_doC (n := 35) Tryz.func13 rfl rfl rfl ?_
  refine doC_seq ?_
  refine doC_region ?_
  refine doL_box 2 rfl rfl rfl rfl ?_; intro b2
  refine doL_box 3 rfl rfl rfl rfl ?_; intro b3
  refine doL_alloc 4 ze44 rfl rfl rfl ?_; intro b4
  refine doL_v (opV_assign rfl) rfl rfl rfl ?_
  refine doL_nil ?_
  refine post_then ?_
  refine doC_seq ?_
  refine doC_region ?_
  refine doL_v (opV_fieldAddr fa44_0 rfl) rfl rfl rfl ?_
  refine doL_v (opV_load1 2 ty2 rfl rfl rfl) rfl rfl rfl ?_
  refine doL_v (opV_fieldAddr fa44_0 rfl) rfl rfl rfl ?_
  refine doL_v (opV_load1 3 ty2 rfl rfl rfl) rfl rfl rfl ?_
  refine doL_v (opV_max2 rfl rfl) rfl rfl rfl ?_
  refine doL_v (opV_fieldAddr fa44_1 rfl) rfl rfl rfl ?_
  refine doL_v (opV_load1 2 ty2 rfl rfl rfl) rfl rfl rfl ?_
  refine doL_v (opV_fieldAddr fa44_1 rfl) rfl rfl rfl ?_
  refine doL_v (opV_load1 3 ty2 rfl rfl rfl) rfl rfl rfl ?_
  refine doL_v (opV_min2 rfl rfl) rfl rfl rfl ?_
  refine doL_v (opV_build la44 rfl rfl) rfl rfl rfl ?_
  refine doL_alloc 6 ze44 rfl rfl rfl ?_; intro b6
  refine doL_store 6 ty44 rfl rfl rfl rfl rfl rfl rfl rfl ?_
  refine doL_nil ?_
  refine post_then ?_
  refine doC_seq ?_
  refine doC_seq ?_
  refine doC_region ?_
  refine doL_v (opV_loadA 2 ty44 rfl rfl rfl) rfl rfl rfl ?_
  refine doL_vg (F := vB) (opV_call en35 rfl (fun w _ => rValid _ _  w)) rfl rfl rfl ?_; intro r19 hr19
  refine doL_v (opV_not rfl) rfl rfl rfl ?_
  refine doL_v (opV_move rfl) rfl rfl rfl ?_
  refine doL_split 21 rfl (fun hg21 => ?_) (fun hg21 => ?_)
  ·
    refine doL_skip rfl rfl rfl ?_
    refine doL_skip rfl rfl rfl ?_
    refine doL_skip rfl rfl rfl ?_
    refine doL_v (opV_pick_t rfl rfl rfl rfl) rfl rfl rfl ?_
    refine doL_v (opV_move rfl) rfl rfl rfl ?_
    refine doL_skip rfl rfl rfl ?_
    refine doL_skip rfl rfl rfl ?_
    refine doL_skip rfl rfl rfl ?_
    refine doL_skip rfl rfl rfl ?_
    refine doL_skip rfl rfl rfl ?_
    refine doL_v (opV_pick_t rfl rfl rfl rfl) rfl rfl rfl ?_
    refine doL_nil ?_
    refine post_then ?_
    refine doC_cond_t rfl (rfl) ?_
    refine doC_seq ?_
    refine doC_region ?_
    refine doL_v (opV_build la44 rfl rfl) rfl rfl rfl ?_
    refine doL_store 4 ty44 rfl rfl rfl rfl rfl rfl rfl rfl ?_
    refine doL_v (opV_assign rfl) rfl rfl rfl ?_
    refine doL_nil ?_
    refine post_then ?_
    refine doC_ret ?_
    refine post_then_ret ?_
    refine post_rets (rs := [.cell 4 44, .tmp 5]) rfl (resC (resIs_cell 4 rfl rfl ty44 rfl) (resC (resIs_tmp rfl) (resN))) (congrArg (ivB) (?_ : (⟨_, _⟩, _) = Iv.meet (⟨a0, a1⟩ : Iv) (⟨b0, b1⟩ : Iv)))
    subst_vars; first | (simp_all [Iv.meet, Iv.meetB]; done) | (simp_all [Iv.meet, Iv.meetB] <;> omega) | grind [Iv.meet, Iv.meetB]
  ·
    refine doL_v (opV_loadA 3 ty44 rfl rfl rfl) rfl rfl rfl ?_
    refine doL_vg (F := vB) (opV_call en35 rfl (fun w _ => rValid _ _  w)) rfl rfl rfl ?_; intro r23 hr23
    refine doL_v (opV_not rfl) rfl rfl rfl ?_
    refine doL_v (opV_pick_f rfl rfl rfl rfl) rfl rfl rfl ?_
    refine doL_v (opV_move rfl) rfl rfl rfl ?_
    refine doL_split 26 rfl (fun hg26 => ?_) (fun hg26 => ?_)
    ·
      refine doL_skip rfl rfl rfl ?_
      refine doL_skip rfl rfl rfl ?_
      refine doL_skip rfl rfl rfl ?_
      refine doL_skip rfl rfl rfl ?_
      refine doL_skip rfl rfl rfl ?_
      refine doL_v (opV_pick_t rfl rfl rfl rfl) rfl rfl rfl ?_
      refine doL_nil ?_
      refine post_then ?_
      refine doC_cond_t rfl (rfl) ?_
      refine doC_seq ?_
      refine doC_region ?_
      refine doL_v (opV_build la44 rfl rfl) rfl rfl rfl ?_
      refine doL_store 4 ty44 rfl rfl rfl rfl rfl rfl rfl rfl ?_
      refine doL_v (opV_assign rfl) rfl rfl rfl ?_
      refine doL_nil ?_
      refine post_then ?_
      refine doC_ret ?_
      refine post_then_ret ?_
      refine post_rets (rs := [.cell 4 44, .tmp 5]) rfl (resC (resIs_cell 4 rfl rfl ty44 rfl) (resC (resIs_tmp rfl) (resN))) (congrArg (ivB) (?_ : (⟨_, _⟩, _) = Iv.meet (⟨a0, a1⟩ : Iv) (⟨b0, b1⟩ : Iv)))
      subst_vars; first | (simp_all [Iv.meet, Iv.meetB]; done) | (simp_all [Iv.meet, Iv.meetB] <;> omega) | grind [Iv.meet, Iv.meetB]
    ·
      refine doL_v (opV_fieldAddr fa44_0 rfl) rfl rfl rfl ?_
      refine doL_v (opV_load1 6 ty2 rfl rfl rfl) rfl rfl rfl ?_
      refine doL_v (opV_fieldAddr fa44_1 rfl) rfl rfl rfl ?_
      refine doL_v (opV_load1 6 ty2 rfl rfl rfl) rfl rfl rfl ?_
      refine doL_v (opV_gtr rfl rfl) rfl rfl rfl ?_
      refine doL_v (opV_pick_f rfl rfl rfl rfl) rfl rfl rfl ?_
      refine doL_nil ?_
      refine post_then ?_
      refine doC_cond rfl (fun hc32 => ?_) (fun hc32 => ?_)
      ·
        refine doC_seq ?_
        refine doC_region ?_
        refine doL_v (opV_build la44 rfl rfl) rfl rfl rfl ?_
        refine doL_store 4 ty44 rfl rfl rfl rfl rfl rfl rfl rfl ?_
        refine doL_v (opV_assign rfl) rfl rfl rfl ?_
        refine doL_nil ?_
        refine post_then ?_
        refine doC_ret ?_
        refine post_then_ret ?_
        refine post_rets (rs := [.cell 4 44, .tmp 5]) rfl (resC (resIs_cell 4 rfl rfl ty44 rfl) (resC (resIs_tmp rfl) (resN))) (congrArg (ivB) (?_ : (⟨_, _⟩, _) = Iv.meet (⟨a0, a1⟩ : Iv) (⟨b0, b1⟩ : Iv)))
        subst_vars; first | (simp_all [Iv.meet, Iv.meetB]; done) | (simp_all [Iv.meet, Iv.meetB] <;> omega) | grind [Iv.meet, Iv.meetB]
      ·
        refine doC_skip ?_
        refine post_then ?_
        refine doC_seq ?_
        refine doC_region ?_
        refine doL_v (opV_loadA 6 ty44 rfl rfl rfl) rfl rfl rfl ?_
        refine doL_store 4 ty44 rfl rfl rfl rfl rfl rfl rfl rfl ?_
        refine doL_v (opV_assign rfl) rfl rfl rfl ?_
        refine doL_nil ?_
        refine post_then ?_
        refine doC_ret ?_
        refine post_rets (rs := [.cell 4 44, .tmp 5]) rfl (resC (resIs_cell 4 rfl rfl ty44 rfl) (resC (resIs_tmp rfl) (resN))) (congrArg (ivB) (?_ : (⟨_, _⟩, _) = Iv.meet (⟨a0, a1⟩ : Iv) (⟨b0, b1⟩ : Iv)))
        subst_vars; first | (simp_all [Iv.meet, Iv.meetB]; done) | (simp_all [Iv.meet, Iv.meetB] <;> omega) | grind [Iv.meet, Iv.meetB]
theorem rMul (a0 a1 : Int) (b0 b1 : Int) (w : World) : Calls Tryz.prog 88 [.agg #[.int .i64 a0, .int .i64 a1], .agg #[.int .i64 b0, .int .i64 b1]].toArray w (Rets (iv (Iv.mul (⟨a0, a1⟩ : Iv) (⟨b0, b1⟩ : Iv))) (w)) := by
  refine calls_of_doC (n := 51) Tryz.func88 rfl rfl rfl ?_
  refine doC_seq ?_
  refine doC_region ?_
  refine doL_box 2 rfl rfl rfl rfl ?_; intro b2
  refine doL_box 3 rfl rfl rfl rfl ?_; intro b3
  refine doL_alloc 4 ze44 rfl rfl rfl ?_; intro b4
  refine doL_nil ?_
  refine post_then ?_
  refine doC_seq ?_
  refine doC_seq ?_
  refine doC_region ?_
  refine doL_v (opV_loadA 2 ty44 rfl rfl rfl) rfl rfl rfl ?_
  refine doL_vg (F := vB) (opV_call en35 rfl (fun w _ => rValid _ _  w)) rfl rfl rfl ?_; intro r10 hr10
  refine doL_v (opV_not rfl) rfl rfl rfl ?_
  refine doL_v (opV_move rfl) rfl rfl rfl ?_
  refine doL_split 12 rfl (fun hg12 => ?_) (fun hg12 => ?_)
  ·
    refine doL_skip rfl rfl rfl ?_
    refine doL_skip rfl rfl rfl ?_
    refine doL_skip rfl rfl rfl ?_
    refine doL_v (opV_pick_t rfl rfl rfl rfl) rfl rfl rfl ?_
    refine doL_nil ?_
    refine post_then ?_
    refine doC_cond_t rfl (rfl) ?_
    refine doC_seq ?_
    refine doC_region ?_
    refine doL_v (opV_build la44 rfl rfl) rfl rfl rfl ?_
    refine doL_store 4 ty44 rfl rfl rfl rfl rfl rfl rfl rfl ?_
    refine doL_nil ?_
    refine post_then ?_
    refine doC_ret ?_
    refine post_then_ret ?_
    refine post_rets (rs := [.cell 4 44]) rfl (resC (resIs_cell 4 rfl rfl ty44 rfl) (resN)) (congrArg (iv) (?_ : ⟨_, _⟩ = Iv.mul (⟨a0, a1⟩ : Iv) (⟨b0, b1⟩ : Iv)))
    subst_vars; first | (simp_all [Iv.mul, Iv.limited, min4, max4]; done) | (simp_all [Iv.mul, Iv.limited, min4, max4] <;> omega) | grind [Iv.mul, Iv.limited, min4, max4]
  ·
    refine doL_v (opV_loadA 3 ty44 rfl rfl rfl) rfl rfl rfl ?_
    refine doL_vg (F := vB) (opV_call en35 rfl (fun w _ => rValid _ _  w)) rfl rfl rfl ?_; intro r14 hr14
    refine doL_v (opV_not rfl) rfl rfl rfl ?_
    refine doL_v (opV_pick_f rfl rfl rfl rfl) rfl rfl rfl ?_
    refine doL_nil ?_
    refine post_then ?_
    refine doC_cond rfl (fun hc16 => ?_) (fun hc16 => ?_)
    ·
      refine doC_seq ?_
      refine doC_region ?_
      refine doL_v (opV_build la44 rfl rfl) rfl rfl rfl ?_
      refine doL_store 4 ty44 rfl rfl rfl rfl rfl rfl rfl rfl ?_
      refine doL_nil ?_
      refine post_then ?_
      refine doC_ret ?_
      refine post_then_ret ?_
      refine post_rets (rs := [.cell 4 44]) rfl (resC (resIs_cell 4 rfl rfl ty44 rfl) (resN)) (congrArg (iv) (?_ : ⟨_, _⟩ = Iv.mul (⟨a0, a1⟩ : Iv) (⟨b0, b1⟩ : Iv)))
      subst_vars; first | (simp_all [Iv.mul, Iv.limited, min4, max4]; done) | (simp_all [Iv.mul, Iv.limited, min4, max4] <;> omega) | grind [Iv.mul, Iv.limited, min4, max4]
    ·
      refine doC_skip ?_
      refine post_then ?_
      refine doC_seq ?_
      have ha := valid_mk (hr10.symm.trans (by simpa using hg12))
      have hb := valid_mk (hr14.symm.trans (by simpa using hc16))
      have m1 := mul_bnd (a := a0) (b := b0) (by omega) (by omega)
      have m2 := mul_bnd (a := a0) (b := b1) (by omega) (by omega)
      have m3 := mul_bnd (a := a1) (b := b0) (by omega) (by omega)
      have m4 := mul_bnd (a := a1) (b := b1) (by omega) (by omega)
      refine doC_drawn 23 mo (by kernel_rfl) ?_
      simp only [List.take_succ_cons, List.take_zero, List.drop_succ_cons, List.drop_zero]
      refine doG_v (opV_fieldAddr fa44_0 rfl) rfl rfl rfl ?_
      refine doG_v (opV_load1 2 ty2 rfl rfl rfl) rfl rfl rfl ?_
      refine doG_v (opV_fieldAddr fa44_0 rfl) rfl rfl rfl ?_
      refine doG_v (opV_load1 3 ty2 rfl rfl rfl) rfl rfl rfl ?_
      refine doG_v (opV_mul rfl rfl (by first | exact i64_in ⟨by omega, by omega⟩ | rfl)) rfl rfl rfl ?_
      refine doG_v (opV_fieldAddr fa44_0 rfl) rfl rfl rfl ?_
      refine doG_v (opV_load1 2 ty2 rfl rfl rfl) rfl rfl rfl ?_
      refine doG_v (opV_fieldAddr fa44_1 rfl) rfl rfl rfl ?_
      refine doG_v (opV_load1 3 ty2 rfl rfl rfl) rfl rfl rfl ?_
      refine doG_v (opV_mul rfl rfl (by first | exact i64_in ⟨by omega, by omega⟩ | rfl)) rfl rfl rfl ?_
      refine doG_v (opV_fieldAddr fa44_1 rfl) rfl rfl rfl ?_
      refine doG_v (opV_load1 2 ty2 rfl rfl rfl) rfl rfl rfl ?_
      refine doG_v (opV_fieldAddr fa44_0 rfl) rfl rfl rfl ?_
      refine doG_v (opV_load1 3 ty2 rfl rfl rfl) rfl rfl rfl ?_
      refine doG_v (opV_mul rfl rfl (by first | exact i64_in ⟨by omega, by omega⟩ | rfl)) rfl rfl rfl ?_
      refine doG_v (opV_fieldAddr fa44_1 rfl) rfl rfl rfl ?_
      refine doG_v (opV_load1 2 ty2 rfl rfl rfl) rfl rfl rfl ?_
      refine doG_v (opV_fieldAddr fa44_1 rfl) rfl rfl rfl ?_
      refine doG_v (opV_load1 3 ty2 rfl rfl rfl) rfl rfl rfl ?_
      refine doG_v (opV_mul rfl rfl (by first | exact i64_in ⟨by omega, by omega⟩ | rfl)) rfl rfl rfl ?_
      refine doG_v (opV_assign rfl) rfl rfl rfl ?_
      refine doG_v (opV_assign rfl) rfl rfl rfl ?_
      refine doG_v (opV_assign rfl) rfl rfl rfl ?_
      refine doG_nil ?_
      refine tail_nil ?_
      refine doL_v (opV_assign rfl) rfl rfl rfl ?_
      refine doL_nil ?_
      refine post_then ?_
      refine doC_seq ?_
      refine doC_region ?_
      refine doL_v (opV_move rfl) rfl rfl rfl ?_
      refine doL_v (opV_move rfl) rfl rfl rfl ?_
      refine doL_v (opV_move rfl) rfl rfl rfl ?_
      refine doL_v (opV_move rfl) rfl rfl rfl ?_
      refine doL_v (opV_min4 rfl rfl rfl rfl) rfl rfl rfl ?_
      refine doL_vg (F := vI) (opV_call en62 rfl (fun w _ => rFloor _ _ (by unfold In64; omega) (by omega) w)) rfl rfl rfl ?_; intro r43 hr43
      refine doL_v (opV_move rfl) rfl rfl rfl ?_
      refine doL_v (opV_move rfl) rfl rfl rfl ?_
      refine doL_v (opV_move rfl) rfl rfl rfl ?_
      refine doL_v (opV_move rfl) rfl rfl rfl ?_
      refine doL_v (opV_max4 rfl rfl rfl rfl) rfl rfl rfl ?_
      refine doL_vg (F := vI) (opV_call en63 rfl (fun w _ => rCeil _ _ (by unfold In64; omega) (by omega) w)) rfl rfl rfl ?_; intro r49 hr49
      refine doL_vg (F := iv) (opV_call en60 rfl (fun w _ => rLimited _ _  w)) rfl rfl rfl ?_; intro r50 hr50
      refine doL_store 4 ty44 rfl rfl rfl rfl rfl rfl rfl rfl ?_
      refine doL_nil ?_
      refine post_then ?_
      refine doC_ret ?_
      refine post_rets (rs := [.cell 4 44]) rfl (resC (resIs_cell 4 rfl rfl ty44 rfl) (resN)) (congrArg (iv) (?_ : ⟨_, _⟩ = Iv.mul (⟨a0, a1⟩ : Iv) (⟨b0, b1⟩ : Iv)))
      subst_vars; first | (simp_all [Iv.mul, Iv.limited, min4, max4]; done) | (simp_all [Iv.mul, Iv.limited, min4, max4] <;> omega) | grind [Iv.mul, Iv.limited, min4, max4]
theorem rSquare (a0 a1 : Int) (w : World) : Calls Tryz.prog 37 [.agg #[.int .i64 a0, .int .i64 a1]].toArray w (Rets (iv (Iv.square (⟨a0, a1⟩ : Iv))) (w)) := by
  refine calls_of_doC (n := 44) Tryz.func37 rfl rfl rfl ?_
  refine doC_seq ?_
  refine doC_region ?_
  refine doL_box 1 rfl rfl rfl rfl ?_; intro b1
  refine doL_alloc 2 ze44 rfl rfl rfl ?_; intro b2
  refine doL_nil ?_
  refine post_then ?_
  refine doC_seq ?_
  refine doC_seq ?_
  refine doC_region ?_
  refine doL_v (opV_loadA 1 ty44 rfl rfl rfl) rfl rfl rfl ?_
  refine doL_vg (F := vB) (opV_call en35 rfl (fun w _ => rValid _ _  w)) rfl rfl rfl ?_; intro r6 hr6
  refine doL_v (opV_not rfl) rfl rfl rfl ?_
  refine doL_nil ?_
  refine post_then ?_
  refine doC_cond rfl (fun hc7 => ?_) (fun hc7 => ?_)
  ·
    refine doC_seq ?_
    refine doC_region ?_
    refine doL_v (opV_build la44 rfl rfl) rfl rfl rfl ?_
    refine doL_store 2 ty44 rfl rfl rfl rfl rfl rfl rfl rfl ?_
    refine doL_nil ?_
    refine post_then ?_
    refine doC_ret ?_
    refine post_then_ret ?_
    refine post_rets (rs := [.cell 2 44]) rfl (resC (resIs_cell 2 rfl rfl ty44 rfl) (resN)) (congrArg (iv) (?_ : ⟨_, _⟩ = Iv.square (⟨a0, a1⟩ : Iv)))
    subst_vars; first | (simp_all [Iv.square, Iv.limited, Iv.hasZero]; done) | (simp_all [Iv.square, Iv.limited, Iv.hasZero] <;> omega) | grind [Iv.square, Iv.limited, Iv.hasZero]
  ·
    refine doC_skip ?_
    refine post_then ?_
    refine doC_seq ?_
    have ha := valid_mk (hr6.symm.trans (by simpa using hc7))
    have m1 := mul_bnd (a := a0) (b := a0) (by omega) (by omega)
    have m2 := mul_bnd (a := a1) (b := a1) (by omega) (by omega)
    refine doC_drawn 23 mo (by kernel_rfl) ?_
    simp only [List.take_succ_cons, List.take_zero, List.drop_succ_cons, List.drop_zero]
    refine doG_v (opV_fieldAddr fa44_0 rfl) rfl rfl rfl ?_
    refine doG_v (opV_load1 1 ty2 rfl rfl rfl) rfl rfl rfl ?_
    refine doG_v (opV_fieldAddr fa44_0 rfl) rfl rfl rfl ?_
    refine doG_v (opV_load1 1 ty2 rfl rfl rfl) rfl rfl rfl ?_
    refine doG_v (opV_mul rfl rfl (by first | exact i64_in ⟨by omega, by omega⟩ | rfl)) rfl rfl rfl ?_
    refine doG_v (opV_fieldAddr fa44_1 rfl) rfl rfl rfl ?_
    refine doG_v (opV_load1 1 ty2 rfl rfl rfl) rfl rfl rfl ?_
    refine doG_v (opV_fieldAddr fa44_1 rfl) rfl rfl rfl ?_
    refine doG_v (opV_load1 1 ty2 rfl rfl rfl) rfl rfl rfl ?_
    refine doG_v (opV_mul rfl rfl (by first | exact i64_in ⟨by omega, by omega⟩ | rfl)) rfl rfl rfl ?_
    refine doG_v (opV_min2 rfl rfl) rfl rfl rfl ?_
    refine doG_v (opV_fieldAddr fa44_0 rfl) rfl rfl rfl ?_
    refine doG_v (opV_load1 1 ty2 rfl rfl rfl) rfl rfl rfl ?_
    refine doG_v (opV_fieldAddr fa44_0 rfl) rfl rfl rfl ?_
    refine doG_v (opV_load1 1 ty2 rfl rfl rfl) rfl rfl rfl ?_
    refine doG_v (opV_mul rfl rfl (by first | exact i64_in ⟨by omega, by omega⟩ | rfl)) rfl rfl rfl ?_
    refine doG_v (opV_fieldAddr fa44_1 rfl) rfl rfl rfl ?_
    refine doG_v (opV_load1 1 ty2 rfl rfl rfl) rfl rfl rfl ?_
    refine doG_v (opV_fieldAddr fa44_1 rfl) rfl rfl rfl ?_
    refine doG_v (opV_load1 1 ty2 rfl rfl rfl) rfl rfl rfl ?_
    refine doG_v (opV_mul rfl rfl (by first | exact i64_in ⟨by omega, by omega⟩ | rfl)) rfl rfl rfl ?_
    refine doG_v (opV_max2 rfl rfl) rfl rfl rfl ?_
    refine doG_v (opV_assign rfl) rfl rfl rfl ?_
    refine doG_nil ?_
    refine tail_nil ?_
    refine doL_v (opV_assign rfl) rfl rfl rfl ?_
    refine doL_nil ?_
    refine post_then ?_
    refine doC_seq ?_
    refine doC_seq ?_
    refine doC_region ?_
    refine doL_v (opV_fieldAddr fa44_0 rfl) rfl rfl rfl ?_
    refine doL_v (opV_load1 1 ty2 rfl rfl rfl) rfl rfl rfl ?_
    refine doL_v (opV_leq rfl rfl) rfl rfl rfl ?_
    refine doL_v (opV_move rfl) rfl rfl rfl ?_
    refine doL_split 34 rfl (fun hg34 => ?_) (fun hg34 => ?_)
    ·
      refine doL_v (opV_fieldAddr fa44_1 rfl) rfl rfl rfl ?_
      refine doL_v (opV_load1 1 ty2 rfl rfl rfl) rfl rfl rfl ?_
      refine doL_v (opV_geq rfl rfl) rfl rfl rfl ?_
      refine doL_v (opV_pick_t rfl rfl rfl rfl) rfl rfl rfl ?_
      refine doL_nil ?_
      refine post_then ?_
      refine doC_cond rfl (fun hc38 => ?_) (fun hc38 => ?_)
      ·
        refine doC_region ?_
        refine doL_v (opV_assign rfl) rfl rfl rfl ?_
        refine doL_nil ?_
        refine post_then ?_
        refine doC_seq ?_
        refine doC_region ?_
        refine doL_v (opV_move rfl) rfl rfl rfl ?_
        refine doL_vg (F := vI) (opV_call en62 rfl (fun w _ => rFloor _ _ (by unfold In64; omega) (by omega) w)) rfl rfl rfl ?_; intro r40 hr40
        refine doL_v (opV_move rfl) rfl rfl rfl ?_
        refine doL_vg (F := vI) (opV_call en63 rfl (fun w _ => rCeil _ _ (by unfold In64; omega) (by omega) w)) rfl rfl rfl ?_; intro r42 hr42
        refine doL_vg (F := iv) (opV_call en60 rfl (fun w _ => rLimited _ _  w)) rfl rfl rfl ?_; intro r43 hr43
        refine doL_store 2 ty44 rfl rfl rfl rfl rfl rfl rfl rfl ?_
        refine doL_nil ?_
        refine post_then ?_
        refine doC_ret ?_
        refine post_rets (rs := [.cell 2 44]) rfl (resC (resIs_cell 2 rfl rfl ty44 rfl) (resN)) (congrArg (iv) (?_ : ⟨_, _⟩ = Iv.square (⟨a0, a1⟩ : Iv)))
        subst_vars; first | (simp_all [Iv.square, Iv.limited, Iv.hasZero]; done) | (simp_all [Iv.square, Iv.limited, Iv.hasZero] <;> omega) | grind [Iv.square, Iv.limited, Iv.hasZero]
      ·
        refine doC_skip ?_
        refine post_then ?_
        refine doC_seq ?_
        refine doC_region ?_
        refine doL_v (opV_move rfl) rfl rfl rfl ?_
        refine doL_vg (F := vI) (opV_call en62 rfl (fun w _ => rFloor _ _ (by unfold In64; omega) (by omega) w)) rfl rfl rfl ?_; intro r40 hr40
        refine doL_v (opV_move rfl) rfl rfl rfl ?_
        refine doL_vg (F := vI) (opV_call en63 rfl (fun w _ => rCeil _ _ (by unfold In64; omega) (by omega) w)) rfl rfl rfl ?_; intro r42 hr42
        refine doL_vg (F := iv) (opV_call en60 rfl (fun w _ => rLimited _ _  w)) rfl rfl rfl ?_; intro r43 hr43
        refine doL_store 2 ty44 rfl rfl rfl rfl rfl rfl rfl rfl ?_
        refine doL_nil ?_
        refine post_then ?_
        refine doC_ret ?_
        refine post_rets (rs := [.cell 2 44]) rfl (resC (resIs_cell 2 rfl rfl ty44 rfl) (resN)) (congrArg (iv) (?_ : ⟨_, _⟩ = Iv.square (⟨a0, a1⟩ : Iv)))
        subst_vars; first | (simp_all [Iv.square, Iv.limited, Iv.hasZero]; done) | (simp_all [Iv.square, Iv.limited, Iv.hasZero] <;> omega) | grind [Iv.square, Iv.limited, Iv.hasZero]
    ·
      refine doL_skip rfl rfl rfl ?_
      refine doL_skip rfl rfl rfl ?_
      refine doL_skip rfl rfl rfl ?_
      refine doL_v (opV_pick_f rfl rfl rfl rfl) rfl rfl rfl ?_
      refine doL_nil ?_
      refine post_then ?_
      refine doC_cond_f rfl (rfl) ?_
      refine doC_skip ?_
      refine post_then ?_
      refine doC_seq ?_
      refine doC_region ?_
      refine doL_v (opV_move rfl) rfl rfl rfl ?_
      refine doL_vg (F := vI) (opV_call en62 rfl (fun w _ => rFloor _ _ (by unfold In64; omega) (by omega) w)) rfl rfl rfl ?_; intro r40 hr40
      refine doL_v (opV_move rfl) rfl rfl rfl ?_
      refine doL_vg (F := vI) (opV_call en63 rfl (fun w _ => rCeil _ _ (by unfold In64; omega) (by omega) w)) rfl rfl rfl ?_; intro r42 hr42
      refine doL_vg (F := iv) (opV_call en60 rfl (fun w _ => rLimited _ _  w)) rfl rfl rfl ?_; intro r43 hr43
      refine doL_store 2 ty44 rfl rfl rfl rfl rfl rfl rfl rfl ?_
      refine doL_nil ?_
      refine post_then ?_
      refine doC_ret ?_
      refine post_rets (rs := [.cell 2 44]) rfl (resC (resIs_cell 2 rfl rfl ty44 rfl) (resN)) (congrArg (iv) (?_ : ⟨_, _⟩ = Iv.square (⟨a0, a1⟩ : Iv)))
      subst_vars; first | (simp_all [Iv.square, Iv.limited, Iv.hasZero]; done) | (simp_all [Iv.square, Iv.limited, Iv.hasZero] <;> omega) | grind [Iv.square, Iv.limited, Iv.hasZero]
end Go.Proofs.YtonampcmhhhffaaGreat

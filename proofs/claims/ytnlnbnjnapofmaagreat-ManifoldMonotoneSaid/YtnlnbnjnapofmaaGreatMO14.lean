/- Part 14 of the texts behind the last one: rules and contracts. No condition. -/
import Derived.Test.YtnlnbnjnapofmaaGreatMO13
namespace Go.Sx
def Bd (K : Int) (a : Iv) : Prop := -K ≤ a.lo ∧ a.lo ≤ a.hi ∧ a.hi ≤ K
theorem bd_valid {K : Int} {a : Iv} (h : Bd K a) (hK : K ≤ 2147483648) : a.valid = true := by
  obtain ⟨h1, h2, h3⟩ := h
  unfold Iv.valid
  simp only [Bool.and_eq_true, decide_eq_true_eq]
  omega
theorem bd_mono {K L : Int} {a : Iv} (h : Bd K a) (hK : K ≤ L) : Bd L a := by
  obtain ⟨h1, h2, h3⟩ := h
  exact ⟨by omega, h2, by omega⟩
theorem bd_add {K L : Int} {a b : Iv} (ha : Bd K a) (hb : Bd L b) (h : K + L ≤ 2147483648) (h0 : 0 ≤ K ∧ 0 ≤ L) : Bd (K + L) (Iv.add a b) := by
  unfold Iv.add
  rw [bd_valid ha (by omega), bd_valid hb (by omega)]
  obtain ⟨a1, a2, a3⟩ := ha
  obtain ⟨b1, b2, b3⟩ := hb
  simp only [Bool.and_self, cond_true]
  unfold Bd clampI
  dsimp only
  omega
theorem mul_b {x y K : Int} (hx : -65536 ≤ x ∧ x ≤ 65536) (hy : -K ≤ y ∧ y ≤ K) : -(65536 * K) ≤ x * y ∧ x * y ≤ 65536 * K := by
  have hK : 0 ≤ K := by omega
  have h1 : 0 ≤ (65536 - x) * (K + y) := Int.mul_nonneg (by omega) (by omega)
  have h2 : 0 ≤ (65536 + x) * (K - y) := Int.mul_nonneg (by omega) (by omega)
  have h3 : 0 ≤ (65536 - x) * (K - y) := Int.mul_nonneg (by omega) (by omega)
  have h4 : 0 ≤ (65536 + x) * (K + y) := Int.mul_nonneg (by omega) (by omega)
  have e1 : (65536 - x) * (K + y) = 65536 * K + 65536 * y - x * K - x * y := by rw [Int.sub_mul, Int.mul_add, Int.mul_add]; omega
  have e2 : (65536 + x) * (K - y) = 65536 * K - 65536 * y + x * K - x * y := by rw [Int.add_mul, Int.mul_sub, Int.mul_sub]; omega
  have e3 : (65536 - x) * (K - y) = 65536 * K - 65536 * y - x * K + x * y := by rw [Int.sub_mul, Int.mul_sub, Int.mul_sub]; omega
  have e4 : (65536 + x) * (K + y) = 65536 * K + 65536 * y + x * K + x * y := by rw [Int.add_mul, Int.mul_add, Int.mul_add]; omega
  omega
theorem bd_mul {K : Int} {a b : Iv} (ha : Bd 65536 a) (hb : Bd K b) (h : K ≤ 2147483648) : Bd K (Iv.mul a b) := by
  unfold Iv.mul
  rw [bd_valid ha (by decide), bd_valid hb h]
  obtain ⟨a1, a2, a3⟩ := ha
  obtain ⟨b1, b2, b3⟩ := hb
  have p1 := mul_b (x := a.lo) (y := b.lo) (K := K) (by omega) (by omega)
  have p2 := mul_b (x := a.lo) (y := b.hi) (K := K) (by omega) (by omega)
  have p3 := mul_b (x := a.hi) (y := b.lo) (K := K) (by omega) (by omega)
  have p4 := mul_b (x := a.hi) (y := b.hi) (K := K) (by omega) (by omega)
  simp only [Bool.and_self, cond_true]
  generalize a.lo * b.lo = x1 at *
  generalize a.lo * b.hi = x2 at *
  generalize a.hi * b.lo = x3 at *
  generalize a.hi * b.hi = x4 at *
  unfold Bd clampI min4 max4 ceilI
  dsimp only
  omega
theorem bd_neg {K : Int} {a : Iv} (h : Bd K a) (hK : K ≤ 2147483648) : Bd K (Iv.neg a) := by
  unfold Iv.neg
  rw [bd_valid h hK]
  obtain ⟨h1, h2, h3⟩ := h
  simp only [cond_true]
  unfold Bd
  dsimp only
  omega
theorem bd_lim {K : Int} {a : Iv} (h : Bd K a) : Bd 65536 (limV a) := by
  obtain ⟨h1, h2, h3⟩ := h
  unfold limV limI Bd
  dsimp only
  omega
def BV (K : Int) (v : V3) : Prop := Bd K v.x ∧ Bd K v.y ∧ Bd K v.z
def BM (m : M3) : Prop := BV 65536 m.x ∧ BV 65536 m.y ∧ BV 65536 m.z
def BP (K : Int) (p : Po) : Prop := BM p.r ∧ BV K p.t
theorem bv_mono {K L : Int} {v : V3} (h : BV K v) (hK : K ≤ L) : BV L v := ⟨bd_mono h.1 hK, bd_mono h.2.1 hK, bd_mono h.2.2 hK⟩
theorem bp_mono {K L : Int} {p : Po} (h : BP K p) (hK : K ≤ L) : BP L p := ⟨h.1, bv_mono h.2 hK⟩
theorem bd_dot {K : Int} {a b : V3} (ha : BV 65536 a) (hb : BV K b) (h : 3 * K ≤ 2147483648) (h0 : 0 ≤ K) : Bd (3 * K) (V3.dot a b) := by
  have e : 3 * K = K + K + K := by omega
  rw [e]
  exact bd_add (bd_add (bd_mul ha.1 hb.1 (by omega)) (bd_mul ha.2.1 hb.2.1 (by omega)) (by omega) (by omega)) (bd_mul ha.2.2 hb.2.2 (by omega)) (by omega) (by omega)
theorem bm_tr {m : M3} (h : BM m) : BM (M3.tr m) := ⟨⟨h.1.1, h.2.1.1, h.2.2.1⟩, ⟨h.1.2.1, h.2.1.2.1, h.2.2.2.1⟩, ⟨h.1.2.2, h.2.1.2.2, h.2.2.2.2⟩⟩
theorem bd_row {a : V3} {b : M3} (ha : BV 65536 a) (hb : BM b) : BV 65536 (M3.row a b) := ⟨bd_lim (bd_dot ha (bm_tr hb).1 (by decide) (by decide)), bd_lim (bd_dot ha (bm_tr hb).2.1 (by decide) (by decide)), bd_lim (bd_dot ha (bm_tr hb).2.2 (by decide) (by decide))⟩
theorem bm_mul {a b : M3} (ha : BM a) (hb : BM b) : BM (M3.mul a b) := ⟨bd_row ha.1 hb, bd_row ha.2.1 hb, bd_row ha.2.2 hb⟩
theorem bv_apply {K : Int} {m : M3} {v : V3} (hm : BM m) (hv : BV K v) (h : 3 * K ≤ 2147483648) (h0 : 0 ≤ K) : BV (3 * K) (M3.apply m v) := ⟨bd_dot hm.1 hv h h0, bd_dot hm.2.1 hv h h0, bd_dot hm.2.2 hv h h0⟩
theorem bv_app {K L : Int} {p : Po} {v : V3} (hp : BP K p) (hv : BV L v) (h : K + 3 * L ≤ 2147483648) (h0 : 0 ≤ K ∧ 0 ≤ L) : BV (K + 3 * L) (Po.app p v) := by
  have hm := bv_apply hp.1 hv (by omega) h0.2
  exact ⟨bd_add hp.2.1 hm.1 h (by omega), bd_add hp.2.2.1 hm.2.1 h (by omega), bd_add hp.2.2.2 hm.2.2 h (by omega)⟩
theorem bp_mul {K L : Int} {p q : Po} (hp : BP K p) (hq : BP L q) (h : K + 3 * L ≤ 2147483648) (h0 : 0 ≤ K ∧ 0 ≤ L) : BP (K + 3 * L) (Po.mul p q) := ⟨bm_mul hp.1 hq.1, bv_app hp hq.2 h h0⟩
theorem bd0 {K : Int} (h : 0 ≤ K) : Bd K iv0 := ⟨by show -K ≤ 0; omega, Int.le_refl _, h⟩
theorem bd1 : Bd 65536 iv1 := ⟨by decide, by decide, by decide⟩
theorem bm_unit : BM M3.unit := ⟨⟨bd1, bd0 (by decide), bd0 (by decide)⟩, ⟨bd0 (by decide), bd1, bd0 (by decide)⟩, ⟨bd0 (by decide), bd0 (by decide), bd1⟩⟩
theorem bm_zero : BM M3.zero := ⟨⟨bd0 (by decide), bd0 (by decide), bd0 (by decide)⟩, ⟨bd0 (by decide), bd0 (by decide), bd0 (by decide)⟩, ⟨bd0 (by decide), bd0 (by decide), bd0 (by decide)⟩⟩
theorem bv_zero {K : Int} (h : 0 ≤ K) : BV K V3.zero := ⟨bd0 h, bd0 h, bd0 h⟩
theorem bp_rest {K : Int} (h : 0 ≤ K) : BP K Po.rest := ⟨bm_unit, bv_zero h⟩
theorem bd_of {x K : Int} (h : -K ≤ x ∧ x ≤ K) (hK : K ≤ 2147483648) : Bd K (Iv.of x) := by
  unfold Iv.of Bd clampI
  dsimp only
  omega
theorem bv_of {z : Z3} (h : ZB z) : BV 4194304 (V3.of z) := ⟨bd_of h.1 (by decide), bd_of h.2.1 (by decide), bd_of h.2.2 (by decide)⟩
theorem bv_put {k K : Int} {a : Iv} (h : Bd K a) (h0 : 0 ≤ K) : BV K (V3.put k a) := by
  unfold V3.put
  split
  · exact ⟨h, bd0 h0, bd0 h0⟩
  · split
    · exact ⟨bd0 h0, h, bd0 h0⟩
    · exact ⟨bd0 h0, bd0 h0, h⟩
theorem bd_ov {c l h : Int} (v : -2147483648 ≤ l ∧ l ≤ h ∧ h ≤ 2147483648) : Bd 65536 (ovI c l h) := ov_bnd v
theorem bm_turn {axis : Int} {a : Iv} (v : -2147483648 ≤ a.lo ∧ a.lo ≤ a.hi ∧ a.hi ≤ 2147483648) : BM (M3.turn axis a) := by
  have hs : Bd 65536 (sinOverI a) := by rw [sinOver_ov]; exact bd_ov v
  have hc : Bd 65536 (cosOverI a) := by rw [cosOver_ov]; exact bd_ov v
  have hn := bd_neg hs (by decide)
  have h0 : Bd 65536 iv0 := bd0 (by decide)
  unfold M3.turn
  cases !(Iv.valid a)
  · simp only [cond_false]
    cases decide (axis = 0)
    · simp only [cond_false]
      cases decide (axis = 1)
      · simp only [cond_false]
        cases decide (axis = 2)
        · exact bm_zero
        · exact ⟨⟨hc, hn, h0⟩, ⟨hs, hc, h0⟩, ⟨h0, h0, bd1⟩⟩
      · exact ⟨⟨hc, h0, hs⟩, ⟨h0, bd1, h0⟩, ⟨hn, h0, hc⟩⟩
    · exact ⟨⟨bd1, h0, h0⟩, ⟨h0, hc, hn⟩, ⟨h0, hs, hc⟩⟩
  · exact bm_zero
theorem bp_jPose {k : Int} {o : Z3} {a : Iv} (ho : ZB o) (ha : Bd 1000000 a) : BP 7194304 (jPose k o a) := by
  unfold jPose
  have h : BP 1000000 (jMot k a) := by
    unfold jMot
    split
    · obtain ⟨h1, h2, h3⟩ := ha
      exact ⟨bm_turn (by omega), bv_zero (by decide)⟩
    · split
      · exact ⟨bm_unit, bv_put ha (by decide)⟩
      · exact bp_rest (by decide)
  exact bp_mul (K := 4194304) ⟨bm_unit, bv_of ho⟩ h (by decide) (by decide)
theorem bp_lks {js : List J} {bx : List Iv} (hj : ∀ j ∈ js, ZB j.off) (hb : ∀ a ∈ bx, Bd 1000000 a) : ∀ n : Nat, n ≤ 10 → ∀ p ∈ lks js bx n, BP (24000000 * n) p
  | 0, _, p, h => by cases h
  | n + 1, hn, p, h => by
    have ih : ∀ p ∈ lks js bx n, BP (24000000 * (n : Int)) p := bp_lks hj hb n (by omega)
    cases hj1 : js[n]? with
    | none =>
      simp only [lks, hj1] at h
      exact bp_mono (ih p h) (by omega)
    | some j =>
      cases hx : bx[n]? with
      | none =>
        simp only [lks, hj1, hx] at h
        exact bp_mono (ih p h) (by omega)
      | some a =>
        rw [lks_succ hj1 hx] at h
        rcases List.mem_append.1 h with h | h
        · exact bp_mono (ih p h) (by omega)
        · obtain rfl := List.mem_singleton.1 h
          have hJ := bp_jPose (k := j.kind) (hj j (List.mem_of_getElem? hj1)) (hb a (List.mem_of_getElem? hx))
          unfold lkP
          split
          · exact bp_mono hJ (by omega)
          · refine bp_mono (bp_mul (K := 24000000 * (n : Int)) ?_ hJ (by omega) (by omega)) (by omega)
            rw [List.getD_eq_getElem?_getD]
            cases hg : (lks js bx n)[j.parent.toNat]? with
            | none => exact bp_rest (by omega)
            | some p => exact ih p (List.mem_of_getElem? hg)
theorem bxs_bd {l : List Int} {js : List J} (hj : ∀ j ∈ js, JB j) : ∀ k, ∀ a ∈ (bxs l js k).1, Bd 1000000 a
  | 0, a, h => by cases h
  | k + 1, a, h => by
    cases hk : js[k]? with
    | none => simp only [bxs, hk] at h; exact bxs_bd hj k a h
    | some j =>
      simp only [bxs, hk] at h
      rcases List.mem_append.1 h with h | h
      · exact bxs_bd hj k a h
      · obtain rfl := List.mem_singleton.1 h
        obtain ⟨b1, b2, b3⟩ := hj j (List.mem_of_getElem? hk)
        have r := uJ l (bxs l js k).2 (k := j.hi - j.lo + 1) (by omega)
        have hx : 0 ≤ (bxW l ((bxs l js k).2 + 1) (j.hi - j.lo)).1 := by
          have a1 := uJ l ((bxs l js k).2 + 1 + 1) (k := 3000) (by decide)
          have a2 := uJ l ((bxs l js k).2 + 1 + 1) (k := 200) (by decide)
          unfold bxW
          repeat' split
          all_goals (dsimp only; omega)
        unfold Bd bxLo
        dsimp only
        omega
end Go.Sx
namespace Go.Sx
structure PSub (p q : Po) : Prop where
  r : MSub p.r q.r
  t : VSub p.t q.t
theorem sub_papp {p q : Po} {u v : V3} (h : PSub p q) (k : VSub u v) : VSub (Po.app p u) (Po.app q v) := sub_Vadd h.t (sub_apply h.r k)
theorem sub_pmul {p q p' q' : Po} (h : PSub p q) (k : PSub p' q') : PSub (Po.mul p p') (Po.mul q q') := ⟨sub_Mmul h.r k.r, sub_papp h k.t⟩
theorem sub0 : Sub iv0 iv0 := .refl zero_Ok
theorem sub1 : Sub iv1 iv1 := .refl one_Ok
theorem sub_unit : MSub M3.unit M3.unit := ⟨⟨sub1, sub0, sub0⟩, ⟨sub0, sub1, sub0⟩, ⟨sub0, sub0, sub1⟩⟩
theorem sub_rest : PSub Po.rest Po.rest := ⟨sub_unit, ⟨sub0, sub0, sub0⟩⟩
theorem ofOk (x : Int) : Ok (Iv.of x) := ⟨(clampM x).1, Int.le_refl _, (clampM x).2⟩
theorem sub_of (z : Z3) : VSub (V3.of z) (V3.of z) := ⟨.refl (ofOk _), .refl (ofOk _), .refl (ofOk _)⟩
theorem sub_put {k : Int} {a b : Iv} (h : Sub a b) : VSub (V3.put k a) (V3.put k b) := by
  unfold V3.put
  split
  · exact ⟨h, sub0, sub0⟩
  · split
    · exact ⟨sub0, h, sub0⟩
    · exact ⟨sub0, sub0, h⟩
theorem sub_jPose {k : Int} {o : Z3} {a b : Iv} (h : Sub a b) : PSub (jPose k o a) (jPose k o b) := by
  unfold jPose
  refine sub_pmul ⟨sub_unit, sub_of o⟩ ?_
  unfold jMot
  split
  · exact ⟨sub_turn (by omega) h, ⟨sub0, sub0, sub0⟩⟩
  · split
    · exact ⟨sub_unit, sub_put h⟩
    · exact sub_rest
def BSub (a b : List Iv) : Prop := a.length = b.length ∧ ∀ (i : Nat) (x y : Iv), a[i]? = some x → b[i]? = some y → Sub x y
def LSub (a b : List Po) : Prop := a.length = b.length ∧ ∀ (i : Nat) (x y : Po), a[i]? = some x → b[i]? = some y → PSub x y
theorem LSub.getD {a b : List Po} (h : LSub a b) (i : Nat) : PSub (a.getD i Po.rest) (b.getD i Po.rest) := by
  rw [List.getD_eq_getElem?_getD, List.getD_eq_getElem?_getD]
  rcases Nat.lt_or_ge i a.length with hi | hi
  · have e1 : a[i]? = some a[i] := List.getElem?_eq_getElem hi
    have e2 : b[i]? = some (b[i]'(by have := h.1; omega)) := List.getElem?_eq_getElem (by have := h.1; omega)
    have := h.2 i _ _ e1 e2
    rw [e1, e2]
    exact this
  · rw [List.getElem?_eq_none hi, List.getElem?_eq_none (by have := h.1; omega)]
    exact sub_rest
theorem LSub.snoc {a b : List Po} {p q : Po} (h : LSub a b) (k : PSub p q) : LSub (a ++ [p]) (b ++ [q]) := by
  have hl := h.1
  refine ⟨by simp [hl], fun i x y hx hy => ?_⟩
  rcases Nat.lt_or_ge i a.length with hi | hi
  · rw [List.getElem?_append_left hi] at hx
    rw [List.getElem?_append_left (by omega)] at hy
    exact h.2 i x y hx hy
  · have hi2 : i < (a ++ [p]).length := (List.getElem?_eq_some_iff.1 hx).1
    simp only [List.length_append, List.length_singleton] at hi2
    obtain rfl : i = a.length := by omega
    rw [List.getElem?_append_right (Nat.le_refl _), Nat.sub_self] at hx
    rw [hl, List.getElem?_append_right (Nat.le_refl _), Nat.sub_self] at hy
    simp at hx hy
    subst hx hy
    exact k
theorem sub_lks {js : List J} {a b : List Iv} (h : BSub a b) : ∀ n, LSub (lks js a n) (lks js b n)
  | 0 => ⟨rfl, fun i x y hx => by simp [lks] at hx⟩
  | n + 1 => by
    have ih := sub_lks h n (js := js)
    cases hj : js[n]? with
    | none => simp only [lks, hj]; exact ih
    | some j =>
      rcases Nat.lt_or_ge n a.length with hn | hn
      · have e1 : a[n]? = some a[n] := List.getElem?_eq_getElem hn
        have e2 : b[n]? = some (b[n]'(by have := h.1; omega)) := List.getElem?_eq_getElem (by have := h.1; omega)
        have hs := h.2 n _ _ e1 e2
        rw [lks_succ hj e1, lks_succ hj e2]
        refine ih.snoc ?_
        unfold lkP
        split
        · exact sub_jPose hs
        · exact sub_pmul (ih.getD _) (sub_jPose hs)
      · have e1 : a[n]? = none := List.getElem?_eq_none hn
        have e2 : b[n]? = none := List.getElem?_eq_none (by have := h.1; omega)
        simp only [lks, hj, e1, e2]
        exact ih
def wths (l : List Int) (bs : List Iv) : Nat → List Iv
  | 0 => []
  | k + 1 => match bs[k]? with
    | some a => wths l bs k ++ [partI a (srcR l (2 * k) 1073741824) (srcR l (2 * k + 1) 1073741824)]
    | none => wths l bs k
theorem wths_succ {l : List Int} {bs : List Iv} {k : Nat} {a : Iv} (h : bs[k]? = some a) : wths l bs (k + 1) = wths l bs k ++ [partI a (srcR l (2 * k) 1073741824) (srcR l (2 * k + 1) 1073741824)] := by
  simp only [wths, h]
theorem wths_len {l : List Int} {bs : List Iv} : ∀ k, k ≤ bs.length → (wths l bs k).length = k
  | 0, _ => rfl
  | k + 1, h => by
    have e : bs[k]? = some bs[k] := List.getElem?_eq_getElem (by omega)
    rw [wths_succ e, List.length_append, wths_len k (by omega)]
    rfl
theorem wths_get {l : List Int} {bs : List Iv} (hv : ∀ a ∈ bs, Ok a) : ∀ k, k ≤ bs.length → ∀ (i : Nat) (x y : Iv), (wths l bs k)[i]? = some x → bs[i]? = some y → Sub x y
  | 0, _, i, x, y, hx, _ => by simp [wths] at hx
  | k + 1, h, i, x, y, hx, hy => by
    have e : bs[k]? = some bs[k] := List.getElem?_eq_getElem (by omega)
    have hl := wths_len (l := l) (bs := bs) k (by omega)
    rw [wths_succ e] at hx
    rcases Nat.lt_or_ge i k with hi | hi
    · rw [List.getElem?_append_left (by omega)] at hx
      exact wths_get hv k (by omega) i x y hx hy
    · have hi2 := (List.getElem?_eq_some_iff.1 hx).1
      simp only [List.length_append, List.length_singleton, hl] at hi2
      obtain rfl : i = k := by omega
      rw [List.getElem?_append_right (by omega), hl, Nat.sub_self] at hx
      rw [e] at hy
      simp at hx hy
      subst hx hy
      exact part_sub (hv _ (List.getElem_mem _)) _ _
theorem wths_sub {l : List Int} {bs : List Iv} (hv : ∀ a ∈ bs, Ok a) : BSub (wths l bs bs.length) bs := ⟨wths_len _ (Nat.le_refl _), wths_get hv _ (Nat.le_refl _)⟩
theorem BSub.valid {a b : List Iv} (h : BSub a b) : ∀ x ∈ a, Iv.valid x = true := fun x hx => by
  obtain ⟨i, hi⟩ := List.mem_iff_getElem?.1 hx
  have hl := (List.getElem?_eq_some_iff.1 hi).1
  have e : b[i]? = some (b[i]'(by have := h.1; omega)) := List.getElem?_eq_getElem (by have := h.1; omega)
  exact valid_of (h.2 i x _ hi e).ok
theorem ok_of {a : Iv} (h : Iv.valid a = true) : Ok a := by
  unfold Iv.valid at h
  simp only [Bool.and_eq_true, decide_eq_true_eq] at h
  exact ⟨h.1.1, h.1.2, h.2⟩
end Go.Sx
namespace Go.Proofs.YtnlnbnjnapofmaaGreat
open Go.Sx
theorem en43 : Enters Tryz.prog 43 := yW Tryz.func43 (by kernel_rfl) (by kernel_rfl)
theorem partC (a0 a1 : Int) (i : Int) (j : Int) (hv : Ok (⟨a0, a1⟩ : Iv)) (w : World) : Calls Tryz.prog 43 [.agg #[.int .i64 a0, .int .i64 a1], .int .i64 i, .int .i64 j].toArray w (Rets (iv (partI (⟨a0, a1⟩ : Iv) i j)) (w)) := by
  refine yQ (n := 42) Tryz.func43 rfl rfl rfl ?_
  refine qJ ?_
  unfold Ok at hv; simp only at hv
  refine qZ ?_
  refine kW 3 rfl rfl rfl rfl ?_; intro b3
  refine jY 6 ze88 rfl rfl rfl ?_; intro b6
  refine qU ?_
  refine qQ ?_
  refine qJ ?_
  refine qZ ?_
  refine qK (qH fa88_1 rfl) rfl rfl rfl ?_
  refine qK (zJ 3 ty2 rfl rfl rfl) rfl rfl rfl ?_
  refine qK (qH fa88_0 rfl) rfl rfl rfl ?_
  refine qK (zJ 3 ty2 rfl rfl rfl) rfl rfl rfl ?_
  refine qK (uU rfl rfl (by first | exact zW ⟨by omega, by omega⟩ | rfl)) rfl rfl rfl ?_
  refine qK (yZ rfl rfl (by first | exact zW ⟨by omega, by omega⟩ | rfl)) rfl rfl rfl ?_
  refine qK (qW rfl) rfl rfl rfl ?_
  refine qU ?_
  refine qQ ?_
  refine qJ ?_
  refine yU 6 mo (by kernel_rfl) ?_
  simp only [List.take_succ_cons, List.take_zero, List.drop_succ_cons, List.drop_zero]
  refine qG (qH fa88_0 rfl) rfl rfl rfl ?_
  refine qG (zJ 3 ty2 rfl rfl rfl) rfl rfl rfl ?_
  refine qG (qY rfl) rfl rfl rfl ?_
  refine qG (qY rfl) rfl rfl rfl ?_
  refine yG (F := vI) (zY en16 rfl (fun w _ => mRound _ _ (by first | omega | assumption | (unfold In64; omega) | decide) w)) rfl rfl rfl ?_; intro r20 hr20
  have qr20 := Int.emod_nonneg i (show a1 - a0 + 1 ≠ 0 by omega)
  have pr20 := Int.emod_lt_of_pos i (show 0 < a1 - a0 + 1 by omega)
  refine qG (yZ rfl rfl (by first | exact zW ⟨by omega, by omega⟩ | rfl)) rfl rfl rfl ?_
  refine jK ?_
  refine yV ?_
  refine qK (qW rfl) rfl rfl rfl ?_
  refine qU ?_
  refine qQ ?_
  refine qJ ?_
  refine qJ ?_
  refine qZ ?_
  refine qK (qY rfl) rfl rfl rfl ?_
  refine qK (opV_and rfl rfl and_1) rfl rfl rfl ?_
  refine qK (opV_eql rfl rfl) rfl rfl rfl ?_
  refine qU ?_
  refine qQ ?_
  refine jW rfl (fun hc24 => ?_) (fun hc24 => ?_)
  ·
    refine qJ ?_
    refine qZ ?_
    refine qK (qY rfl) rfl rfl rfl ?_
    refine qK (qY rfl) rfl rfl rfl ?_
    refine qK (jJ la88 rfl rfl) rfl rfl rfl ?_
    refine zZ 6 ty88 rfl rfl rfl rfl rfl rfl rfl rfl ?_
    refine qU ?_
    refine qQ ?_
    refine yK ?_
    refine kQ ?_
    refine zH (rs := [.cell 6 88]) rfl (resC (yY 6 rfl rfl ty88 rfl) (resN)) (congrArg (iv) (?_ : ⟨_, _⟩ = partI (⟨a0, a1⟩ : Iv) i j))
    subst_vars; first | (simp_all [partI]; done) | (simp_all [partI] <;> omega) | grind [partI]
  ·
    refine zU ?_
    refine qQ ?_
    refine qJ ?_
    refine yU 7 mo (by kernel_rfl) ?_
    simp only [List.take_succ_cons, List.take_zero, List.drop_succ_cons, List.drop_zero]
    refine qG (qH fa88_0 rfl) rfl rfl rfl ?_
    refine qG (zJ 3 ty2 rfl rfl rfl) rfl rfl rfl ?_
    refine qG (qY rfl) rfl rfl rfl ?_
    refine qG (opV_shr rfl rfl (by first | decide | omega) shr_1) rfl rfl rfl ?_
    refine qG (qY rfl) rfl rfl rfl ?_
    refine yG (F := vI) (zY en16 rfl (fun w _ => mRound _ _ (by first | omega | assumption | (unfold In64; omega) | decide) w)) rfl rfl rfl ?_; intro r33 hr33
    have qr33 := Int.emod_nonneg (j / 2) (show a1 - a0 + 1 ≠ 0 by omega)
    have pr33 := Int.emod_lt_of_pos (j / 2) (show 0 < a1 - a0 + 1 by omega)
    refine qG (yZ rfl rfl (by first | exact zW ⟨by omega, by omega⟩ | rfl)) rfl rfl rfl ?_
    refine jK ?_
    refine yV ?_
    refine qK (qW rfl) rfl rfl rfl ?_
    refine qU ?_
    refine qQ ?_
    refine qJ ?_
    refine qZ ?_
    refine qK (qY rfl) rfl rfl rfl ?_
    refine qK (qY rfl) rfl rfl rfl ?_
    refine qK (opV_min2 rfl rfl) rfl rfl rfl ?_
    refine qK (qY rfl) rfl rfl rfl ?_
    refine qK (qY rfl) rfl rfl rfl ?_
    refine qK (opV_max2 rfl rfl) rfl rfl rfl ?_
    refine qK (jJ la88 rfl rfl) rfl rfl rfl ?_
    refine zZ 6 ty88 rfl rfl rfl rfl rfl rfl rfl rfl ?_
    refine qU ?_
    refine qQ ?_
    refine yK ?_
    refine zH (rs := [.cell 6 88]) rfl (resC (yY 6 rfl rfl ty88 rfl) (resN)) (congrArg (iv) (?_ : ⟨_, _⟩ = partI (⟨a0, a1⟩ : Iv) i j))
    subst_vars; first | (simp_all [partI]; done) | (simp_all [partI] <;> omega) | grind [partI]
theorem mkWithinT (lv : Value) (l : List Int) (ab : Option Addr) (n cb : Nat) (bs : List Iv) (hn : n ≤ 1000) (hbn : bs.length = n) (hv : ∀ a ∈ bs, Ok a) (w : World) (hl : IntsAt w w.heap.size lv l) (hT : SlcIs 2 ab (bs.map ivc) w) : Calls Tryz.prog 17 [.slice ab n cb, lv].toArray w (RetsF (X := Option Addr × Nat) (fun x => n ≤ x.2) (fun x => .slice x.1 n x.2) (fun x => SlcIs 2 x.1 ((wths l bs n).map ivc)) w) := by
  refine yQ (n := 29) Tryz.func17 rfl rfl rfl ?_
  refine qJ ?_
  refine qZ ?_
  refine qK (qW rfl) rfl rfl rfl ?_
  refine qU ?_
  refine qQ ?_
  refine qJ ?_
  refine qZ ?_
  refine qK (qY rfl) rfl rfl rfl ?_
  refine doL_callNew 9 en36 rfl (fun w' k => mFrom w' (intsAt_grow hl k.grow (Nat.le_refl _))) rfl rfl ?_; intro b9
  refine qK (qW rfl) rfl rfl rfl ?_
  refine qU ?_
  refine qQ ?_
  refine qJ ?_
  refine qZ ?_
  refine qK (qW rfl) rfl rfl rfl ?_
  refine qU ?_
  refine qQ ?_
  refine qJ ?_
  refine qJ ?_
  refine doC_own 100 88 2 ?_
  refine qZ ?_
  refine qK (qW rfl) rfl rfl rfl ?_
  refine qU ?_
  refine qQ ?_
  refine zK ?_
  refine doC_loopK [0, 5] [] (α := Nat × Option Addr × Nat × List Iv) (fun x => n - x.1) (fun x => x.1 ≤ n ∧ wths l bs x.1 = x.2.2.2 ∧ x.2.2.2.length = x.1) (fun x => ⟨w, [(100, ownD x.2.1, OwnF 0 88 2 x.2.1 x.2.2.1 x.1 (ivC x.2.2.2))]⟩) (fun x => [(6, .slice x.2.1 x.1 x.2.2.1), (7, .int .i64 (x.1 : Int))]) (fun x => [(9, b9, srcC lv l (2 * x.1), 116)]) (0, none, 0, []) rfl rfl ?_ ?_ ?_ ?_ rfl ?_
  ·
    exact ⟨Nat.zero_le _, rfl, rfl⟩
  ·
    exact rfl
  ·
    repeat' first | exact trivial | exact True.intro | refine ⟨rfl, ?_⟩
  ·
    repeat' first | exact trivial | exact True.intro | refine ⟨rfl, ?_⟩
  rintro ⟨k, a, cap, rows⟩ ⟨hk, hsh, hlen⟩
  dsimp only at hk hsh hlen ⊢
  refine qJ ?_
  refine qJ ?_
  refine qZ ?_
  refine qK (qY rfl) rfl rfl rfl ?_
  refine qK (qY rfl) rfl rfl rfl ?_
  refine qK (opV_len_slice sl34 rfl) rfl rfl rfl ?_
  refine qK (yX rfl rfl) rfl rfl rfl ?_
  refine qU ?_
  refine qQ ?_
  refine jW rfl (fun hc13 => ?_) (fun hc13 => ?_)
  ·
    have h2 : k < n := by have := of_decide_eq_true hc13; omega
    obtain ⟨x, hxk⟩ : ∃ x, bs[k]? = some x := ⟨_, List.getElem?_eq_getElem (by omega)⟩
    have hx : (bs.map ivc)[k]? = some (ivc x) := by rw [List.getElem?_map, hxk]; rfl
    have hvx := hv x (List.mem_of_getElem? hxk)
    refine zU ?_
    refine qQ ?_
    refine qJ ?_
    refine zK ?_
    refine doC_srcB 9 11 [6, 8] rfl mo (by kernel_rfl) ?_
    simp only [List.take_succ_cons, List.take_zero, List.drop_succ_cons, List.drop_zero]
    refine doM_v (fun _ => qY rfl) rfl rfl rfl rfl ?_
    refine doM_v (fun _ => qY rfl) rfl rfl rfl rfl ?_
    refine doM_v (fun _ => qY rfl) rfl rfl rfl rfl ?_
    refine doM_v (fun _ => opV_indexS (e := 88) (holds_base hT) (by kernel_rfl) rfl rfl rfl hx h2) rfl rfl rfl rfl ?_
    refine doM_v (fun _ => opV_loadSA (vs := [.int .i64 x.lo, .int .i64 x.hi]) k 0 (holds_base hT) hx ty88 rfl rfl) rfl rfl rfl rfl ?_
    refine doM_v (fun _ => qY rfl) rfl rfl rfl rfl ?_
    refine doM_srcB (F := vI) 9 hl rfl en37 rfl (fun w' h => srcNext _ (by first | omega | assumption | (unfold In64; omega) | decide) w' h) rfl rfl rfl ?_; intro r22 hr22
    have br22 := srcR_b hr22 (by first | decide | omega)
    refine doM_v (fun _ => qY rfl) rfl rfl rfl rfl ?_
    refine doM_srcB (F := vI) 9 hl rfl en37 rfl (fun w' h => srcNext _ (by first | omega | assumption | (unfold In64; omega) | decide) w' h) rfl rfl rfl ?_; intro r24 hr24
    have br24 := srcR_b hr24 (by first | decide | omega)
    refine doM_vg (F := iv) (fun _ => zY en43 rfl (fun w _ => partC _ _ _ _ hvx w)) rfl rfl rfl rfl ?_; intro r25 hr25
    refine doM_bslice (famB (id := 9) rfl) sl34 ze88 rfl rfl rfl rfl rfl rfl rfl rfl rfl rfl ?_
    refine doM_nil ?_
    refine tail_heap rfl ?_
    refine tail_row ?_; intro bb26
    refine tail_append 100 app34 rfl rfl rfl rfl rfl rfl (by omega) (by omega) rfl rfl ?_; intro a27 c27 R27 hR27
    obtain rfl := Option.some.inj hR27
    refine qK (qW rfl) rfl rfl rfl ?_
    refine qU ?_
    refine qV ?_
    refine qQ ?_
    refine qZ ?_
    refine qK (qY rfl) rfl rfl rfl ?_
    refine qK (yZ rfl rfl (inc_nat (by omega))) rfl rfl rfl ?_
    refine qK (qW rfl) rfl rfl rfl ?_
    refine qU ?_
    refine post_again (k + 1, a27, c27, rows ++ [r25]) (by refine ⟨?_, ?_, ?_⟩ <;> dsimp only; omega; rw [wths_succ hxk, hsh, hr25, hr22, hr24]; simp [hlen]) (by show n - (k + 1) < n - k; omega) (by dsimp only; rw [ivC_snoc]; rfl) ?_ ?_ rfl
    repeat' first | exact trivial | exact True.intro | refine ⟨rfl, ?_⟩
  ·
    obtain rfl : k = n := by have := of_decide_eq_false hc13; omega
    refine uZ ?_
    refine zX ?_
    refine zX ?_
    refine yH ?_
    refine qQ ?_
    refine qJ ?_
    refine qZ ?_
    refine qK (qY rfl) rfl rfl rfl ?_
    refine qK (qW rfl) rfl rfl rfl ?_
    refine qU ?_
    refine qQ ?_
    refine yK ?_
    refine post_ret (rs := [.tmp 4]) rfl (resC (jX rfl) (resN)) rfl ?_
    intro w2 k2
    obtain ⟨_, q2, q3⟩ := k2.facts _ List.mem_cons_self
    exact ⟨(a, cap), own_capK q3, rfl, k2.grow, ownD a, slc_dep _ _ _, fun z hz => ⟨(q2 z hz).1, (q2 z hz).2.1⟩, by dsimp only; rw [hsh]; exact iv_slc hlen q3⟩
end Go.Proofs.YtnlnbnjnapofmaaGreat
namespace Go.Proofs.YtnlnbnjnapofmaaGreat.My
open Go.Rx Rt Go.Sx Go.RowKit
open Od Ov Ow Mw Mv Mh Mx
theorem mul_in {n a b x y : Int} (h1 : a ≤ x) (h2 : x ≤ y) (h3 : y ≤ b) : min (n * a) (n * b) ≤ min (n * x) (n * y) ∧ max (n * x) (n * y) ≤ max (n * a) (n * b) ∧ min (n * a) (n * b) ≤ max (n * a) (n * b) := by
  rcases Int.le_total 0 n with hn | hn
  · have p1 := Int.mul_le_mul_of_nonneg_left h1 hn
    have p2 := Int.mul_le_mul_of_nonneg_left h2 hn
    have p3 := Int.mul_le_mul_of_nonneg_left h3 hn
    omega
  · have p1 := Int.mul_le_mul_of_nonpos_left hn h1
    have p2 := Int.mul_le_mul_of_nonpos_left hn h2
    have p3 := Int.mul_le_mul_of_nonpos_left hn h3
    omega
theorem dot_nout {nx ny nz v0 v1 v2 v3 v4 v5 : Int} (h : ¬ ((-16384 ≤ nx ∧ nx ≤ 16384) ∧ (-16384 ≤ ny ∧ ny ≤ 16384) ∧ (-16384 ≤ nz ∧ nz ≤ 16384))) : dot nx ny nz v0 v1 v2 v3 v4 v5 = (0, 0) := by
  unfold dot
  refine bz fun _ => bz fun _ => bz fun _ => bz fun _ => bz fun _ => bz fun _ => ?_
  exfalso; omega
theorem dotV_mono {nx ny nz : Int} {a b : V3} (h : VSub a b) (hb : BV 268435456 b) : (dotV nx ny nz b).1 ≤ (dotV nx ny nz a).1 ∧ (dotV nx ny nz a).2 ≤ (dotV nx ny nz b).2 ∧ (dotV nx ny nz b).1 ≤ (dotV nx ny nz b).2 := by
  unfold dotV
  by_cases hr : (-16384 ≤ nx ∧ nx ≤ 16384) ∧ (-16384 ≤ ny ∧ ny ≤ 16384) ∧ (-16384 ≤ nz ∧ nz ≤ 16384)
  · by_cases hz : nx = 0 ∧ ny = 0 ∧ nz = 0
    · obtain ⟨rfl, rfl, rfl⟩ := hz
      rw [dot_zero, dot_zero]; exact ⟨Int.le_refl _, Int.le_refl _, Int.le_refl _⟩
    · obtain ⟨⟨x1, x2, x3⟩, ⟨y1, y2, y3⟩, z1, z2, z3⟩ := hb
      have ox := h.x.ok.2.1
      have oy := h.y.ok.2.1
      have oz := h.z.ok.2.1
      have lx := h.x.lo
      have ly := h.y.lo
      have lz := h.z.lo
      have ux := h.x.hi
      have uy := h.y.hi
      have uz := h.z.hi
      rw [dot_in hr.1 hr.2.1 hr.2.2 ⟨x1, x2, x3⟩ ⟨y1, y2, y3⟩ ⟨z1, z2, z3⟩ hz, dot_in hr.1 hr.2.1 hr.2.2 (by omega) (by omega) (by omega) hz]
      have p := mul_in (n := nx) lx ox ux
      have q := mul_in (n := ny) ly oy uy
      have r := mul_in (n := nz) lz oz uz
      dsimp only
      generalize min (nx * b.x.lo) (nx * b.x.hi) = a1 at *
      generalize min (nx * a.x.lo) (nx * a.x.hi) = a2 at *
      generalize max (nx * b.x.lo) (nx * b.x.hi) = a3 at *
      generalize max (nx * a.x.lo) (nx * a.x.hi) = a4 at *
      generalize min (ny * b.y.lo) (ny * b.y.hi) = b1 at *
      generalize min (ny * a.y.lo) (ny * a.y.hi) = b2 at *
      generalize max (ny * b.y.lo) (ny * b.y.hi) = b3 at *
      generalize max (ny * a.y.lo) (ny * a.y.hi) = b4 at *
      generalize min (nz * b.z.lo) (nz * b.z.hi) = c1 at *
      generalize min (nz * a.z.lo) (nz * a.z.hi) = c2 at *
      generalize max (nz * b.z.lo) (nz * b.z.hi) = c3 at *
      generalize max (nz * a.z.lo) (nz * a.z.hi) = c4 at *
      omega
  · rw [dot_nout hr, dot_nout hr]; exact ⟨Int.le_refl _, Int.le_refl _, Int.le_refl _⟩
theorem vec_sub {kind : Int} {p q : Po} (h : PSub p q) (px py pz : Int) : VSub (vecP kind p px py pz) (vecP kind q px py pz) := by
  unfold vecP
  cases decide (kind = 1)
  · exact sub_papp h (sub_of _)
  · exact sub_apply h.r (sub_of _)
theorem vec_bv {kind : Int} {p : Po} {px py pz : Int} (h : BP 72000000 p) (hz : ZB ⟨px, py, pz⟩) : BV 268435456 (vecP kind p px py pz) := by
  unfold vecP
  cases decide (kind = 1)
  · exact bv_mono (bv_app h (bv_of hz) (by decide) (by decide)) (by decide)
  · exact bv_mono (bv_apply h.1 (bv_of hz) (by decide) (by decide)) (by decide)
theorem rng_mono {c : Cn} {p q : Po} (h : PSub p q) (hq : BP 72000000 q) (hz : ZB c.p) : (rng c q).1 ≤ (rng c p).1 ∧ (rng c p).2 ≤ (rng c q).2 ∧ (rng c q).1 ≤ (rng c q).2 := dotV_mono (vec_sub h _ _ _) (vec_bv hq hz)
theorem hld_all (f : Cn → Int × Int) : ∀ cs : List Cn, hld cs (cs.map f) = true ↔ ∀ c ∈ cs, c.lo ≤ (f c).1 ∧ (f c).2 ≤ c.hi
  | [] => by simp [hld]
  | c :: cs => by
    simp only [List.map_cons, hld, Bool.and_eq_true, Bool.not_eq_true', decide_eq_false_iff_not, hld_all f cs, List.mem_cons, forall_eq_or_imp, Int.not_lt, and_assoc]
theorem brk_any (f : Cn → Int × Int) : ∀ cs : List Cn, brk cs (cs.map f) = true ↔ ∃ c ∈ cs, (f c).2 < c.lo ∨ c.hi < (f c).1
  | [] => by simp [brk]
  | c :: cs => by
    simp only [List.map_cons, brk, Bool.or_eq_true, decide_eq_true_eq, brk_any f cs, List.mem_cons, exists_eq_or_imp, or_assoc]
theorem cns_zb (nf : Int → Int → Int → Z3) (L : List Int) (m : Int) : ∀ k, ∀ c ∈ (cnsOf nf L m k).1, ZB c.p
  | 0, c, h => by cases h
  | k + 1, c, h => by
    rcases List.mem_append.1 (show c ∈ (cnsOf nf L m k).1 ++ [_] from h) with h | h
    · exact cns_zb nf L m k c h
    · obtain rfl := List.mem_singleton.1 h
      generalize (cnsOf nf L m k).2 = q
      have a := uJ L (q + 2) (k := 2 * 4 + 1) (by decide)
      have b := uJ L (q + 3) (k := 2 * 2 + 1) (by decide)
      have d := uJ L (q + 4) (k := 2 * 2 + 1) (by decide)
      have e1 : ∀ y : Int, (y * 65536).tdiv 2 = y * 32768 := fun y => by rw [show y * 65536 = (y * 32768) * 2 by omega]; exact Int.mul_tdiv_cancel _ (by decide)
      unfold ZB cnOf srcS
      dsimp only
      rw [e1, e1]
      omega
theorem chk_ex {l : List Int} {cs : List Cn} (hk : cs.length = 1 ∨ cs.length = 2 ∨ cs.length = 3) : ∃ G : Bool, SndA1 Tryz.prog 40 [robP l, .l (cs.map cp)] (.v (.b G)) ∧ (G = true → ∀ c ∈ cs, 0 ≤ c.link ∧ c.link < nJ l 0) := by
  have hn := nJ_b l 0
  have hjl := jsOf_len l 0 (nJ l 0)
  have hc := snd_check l
  rcases (by omega : nJ l 0 = 1 ∨ nJ l 0 = 2 ∨ nJ l 0 = 3) with h | h | h
  · obtain ⟨j0, hj⟩ := l1 (hjl.trans h)
    have eR : robP l = rob1 j0 ((msOf l 0 (nM l 0)).map mp) := by unfold robP rob1; rw [hj]; rfl
    rw [eR] at hc ⊢
    rw [h]
    rcases hk with hk | hk | hk
    · obtain ⟨c0, rfl⟩ := l1 hk
      exact ⟨_, snd_conk1_1 hc c0, fun hg => chA_link hg⟩
    · obtain ⟨c0, c1, rfl⟩ := l2 hk
      exact ⟨_, snd_conk1_2 hc c0 c1, fun hg => chA_link hg⟩
    · obtain ⟨c0, c1, c2, rfl⟩ := l3 hk
      exact ⟨_, snd_conk1_3 hc c0 c1 c2, fun hg => chA_link hg⟩
  · obtain ⟨j0, j1, hj⟩ := l2 (hjl.trans h)
    have eR : robP l = rob2 j0 j1 ((msOf l 0 (nM l 0)).map mp) := by unfold robP rob2; rw [hj]; rfl
    rw [eR] at hc ⊢
    rw [h]
    rcases hk with hk | hk | hk
    · obtain ⟨c0, rfl⟩ := l1 hk
      exact ⟨_, snd_conk2_1 hc c0, fun hg => chA_link hg⟩
    · obtain ⟨c0, c1, rfl⟩ := l2 hk
      exact ⟨_, snd_conk2_2 hc c0 c1, fun hg => chA_link hg⟩
    · obtain ⟨c0, c1, c2, rfl⟩ := l3 hk
      exact ⟨_, snd_conk2_3 hc c0 c1 c2, fun hg => chA_link hg⟩
  · obtain ⟨j0, j1, j2, hj⟩ := l3 (hjl.trans h)
    have eR : robP l = rob3 j0 j1 j2 ((msOf l 0 (nM l 0)).map mp) := by unfold robP rob3; rw [hj]; rfl
    rw [eR] at hc ⊢
    rw [h]
    rcases hk with hk | hk | hk
    · obtain ⟨c0, rfl⟩ := l1 hk
      exact ⟨_, snd_conk3_1 hc c0, fun hg => chA_link hg⟩
    · obtain ⟨c0, c1, rfl⟩ := l2 hk
      exact ⟨_, snd_conk3_2 hc c0 c1, fun hg => chA_link hg⟩
    · obtain ⟨c0, c1, c2, rfl⟩ := l3 hk
      exact ⟨_, snd_conk3_3 hc c0 c1 c2, fun hg => chA_link hg⟩
theorem ins_ok {l : List Int} {bx : List Iv} (hb : bx.length = nJ l 0) (hok : ∀ (k : Nat) (j : J) (b : Iv), (jsOf l 0 (nJ l 0)).1[k]? = some j → bx[k]? = some b → bxOk j b) : SndA1 Tryz.prog 41 [robP l, .l (bx.map Rx.ivC)] (.v (.b true)) := by
  have hn := nJ_b l 0
  have hjl := jsOf_len l 0 (nJ l 0)
  have hc := snd_check l
  rcases (by omega : nJ l 0 = 1 ∨ nJ l 0 = 2 ∨ nJ l 0 = 3) with h | h | h
  · obtain ⟨j0, hj⟩ := l1 (hjl.trans h)
    obtain ⟨b0, rfl⟩ := l1 (hb.trans h)
    have eR : robP l = rob1 j0 ((msOf l 0 (nM l 0)).map mp) := by unfold robP rob1; rw [hj]; rfl
    rw [eR] at hc ⊢
    rw [hj] at hok
    exact snd_ins1 (hok 0 _ _ rfl rfl) hc
  · obtain ⟨j0, j1, hj⟩ := l2 (hjl.trans h)
    obtain ⟨b0, b1, rfl⟩ := l2 (hb.trans h)
    have eR : robP l = rob2 j0 j1 ((msOf l 0 (nM l 0)).map mp) := by unfold robP rob2; rw [hj]; rfl
    rw [eR] at hc ⊢
    rw [hj] at hok
    exact snd_ins2 (hok 0 _ _ rfl rfl) (hok 1 _ _ rfl rfl) hc
  · obtain ⟨j0, j1, j2, hj⟩ := l3 (hjl.trans h)
    obtain ⟨b0, b1, b2, rfl⟩ := l3 (hb.trans h)
    have eR : robP l = rob3 j0 j1 j2 ((msOf l 0 (nM l 0)).map mp) := by unfold robP rob3; rw [hj]; rfl
    rw [eR] at hc ⊢
    rw [hj] at hok
    exact snd_ins3 (hok 0 _ _ rfl rfl) (hok 1 _ _ rfl rfl) (hok 2 _ _ rfl rfl) hc
noncomputable def rngOf (l : List Int) (bx : List Iv) (c : Cn) : Int × Int := rng c ((lksOf l bx).getD c.link.toNat Po.rest)
theorem vals_ok {l : List Int} {bx : List Iv} {cs : List Cn} (hb : bx.length = nJ l 0) (hv : ∀ a ∈ bx, Iv.valid a = true) (hk : cs.length = 1 ∨ cs.length = 2 ∨ cs.length = 3) (hc : ∀ c ∈ cs, 0 ≤ c.link ∧ c.link < nJ l 0) :
    SndA1 Tryz.prog 42 [robP l, .l (cs.map cp), .l (bx.map Rx.ivC)] (.ow 37 2 ((cs.map (rngOf l bx)).map rngP)) := by
  have hn := nJ_b l 0
  have hl : SndA1 Tryz.prog 73 [.a [.l ((jsOf l 0 (nJ l 0)).1.map jp), .l ((msOf l 0 (nM l 0)).map mp)], .l (bx.map Rx.ivC)] (.v (.l ((lksOf l bx).map poC))) := snd_links hb hv
  have hpl : (lksOf l bx).length = nJ l 0 := lks_len _ (by rw [jsOf_len]; exact Nat.le_refl _) (by omega)
  unfold rngOf robP
  rcases (by omega : nJ l 0 = 1 ∨ nJ l 0 = 2 ∨ nJ l 0 = 3) with h | h | h
  · obtain ⟨p0, hp⟩ := l1 (hpl.trans h)
    rw [hp] at hl ⊢
    rcases hk with hk | hk | hk
    · obtain ⟨c0, rfl⟩ := l1 hk
      have q0 := hc c0 (by simp)
      show SndA1 _ _ _ (.ow _ 2 [rngP (rng c0 ([p0].getD c0.link.toNat Po.rest))])
      have e0 : c0.link = 0 := by omega
      rw [e0]
      exact snd_vals1_0 hl c0 e0
    · obtain ⟨c0, c1, rfl⟩ := l2 hk
      have q0 := hc c0 (by simp)
      have q1 := hc c1 (by simp)
      show SndA1 _ _ _ (.ow _ 2 [rngP (rng c0 ([p0].getD c0.link.toNat Po.rest)), rngP (rng c1 ([p0].getD c1.link.toNat Po.rest))])
      have e0 : c0.link = 0 := by omega
      have e1 : c1.link = 0 := by omega
      rw [e0, e1]
      exact snd_vals1_00 hl c0 c1 e0 e1
    · obtain ⟨c0, c1, c2, rfl⟩ := l3 hk
      have q0 := hc c0 (by simp)
      have q1 := hc c1 (by simp)
      have q2 := hc c2 (by simp)
      show SndA1 _ _ _ (.ow _ 2 [rngP (rng c0 ([p0].getD c0.link.toNat Po.rest)), rngP (rng c1 ([p0].getD c1.link.toNat Po.rest)), rngP (rng c2 ([p0].getD c2.link.toNat Po.rest))])
      have e0 : c0.link = 0 := by omega
      have e1 : c1.link = 0 := by omega
      have e2 : c2.link = 0 := by omega
      rw [e0, e1, e2]
      exact snd_vals1_000 hl c0 c1 c2 e0 e1 e2
  · obtain ⟨p0, p1, hp⟩ := l2 (hpl.trans h)
    rw [hp] at hl ⊢
    rcases hk with hk | hk | hk
    · obtain ⟨c0, rfl⟩ := l1 hk
      have q0 := hc c0 (by simp)
      show SndA1 _ _ _ (.ow _ 2 [rngP (rng c0 ([p0, p1].getD c0.link.toNat Po.rest))])
      rcases (by omega : c0.link = 0 ∨ c0.link = 1) with e0 | e0
      · rw [e0]
        exact snd_vals2_0 hl c0 e0
      · rw [e0]
        exact snd_vals2_1 hl c0 e0
    · obtain ⟨c0, c1, rfl⟩ := l2 hk
      have q0 := hc c0 (by simp)
      have q1 := hc c1 (by simp)
      show SndA1 _ _ _ (.ow _ 2 [rngP (rng c0 ([p0, p1].getD c0.link.toNat Po.rest)), rngP (rng c1 ([p0, p1].getD c1.link.toNat Po.rest))])
      rcases (by omega : c0.link = 0 ∨ c0.link = 1) with e0 | e0
      · rcases (by omega : c1.link = 0 ∨ c1.link = 1) with e1 | e1
        · rw [e0, e1]
          exact snd_vals2_00 hl c0 c1 e0 e1
        · rw [e0, e1]
          exact snd_vals2_01 hl c0 c1 e0 e1
      · rcases (by omega : c1.link = 0 ∨ c1.link = 1) with e1 | e1
        · rw [e0, e1]
          exact snd_vals2_10 hl c0 c1 e0 e1
        · rw [e0, e1]
          exact snd_vals2_11 hl c0 c1 e0 e1
    · obtain ⟨c0, c1, c2, rfl⟩ := l3 hk
      have q0 := hc c0 (by simp)
      have q1 := hc c1 (by simp)
      have q2 := hc c2 (by simp)
      show SndA1 _ _ _ (.ow _ 2 [rngP (rng c0 ([p0, p1].getD c0.link.toNat Po.rest)), rngP (rng c1 ([p0, p1].getD c1.link.toNat Po.rest)), rngP (rng c2 ([p0, p1].getD c2.link.toNat Po.rest))])
      rcases (by omega : c0.link = 0 ∨ c0.link = 1) with e0 | e0
      · rcases (by omega : c1.link = 0 ∨ c1.link = 1) with e1 | e1
        · rcases (by omega : c2.link = 0 ∨ c2.link = 1) with e2 | e2
          · rw [e0, e1, e2]
            exact snd_vals2_000 hl c0 c1 c2 e0 e1 e2
          · rw [e0, e1, e2]
            exact snd_vals2_001 hl c0 c1 c2 e0 e1 e2
        · rcases (by omega : c2.link = 0 ∨ c2.link = 1) with e2 | e2
          · rw [e0, e1, e2]
            exact snd_vals2_010 hl c0 c1 c2 e0 e1 e2
          · rw [e0, e1, e2]
            exact snd_vals2_011 hl c0 c1 c2 e0 e1 e2
      · rcases (by omega : c1.link = 0 ∨ c1.link = 1) with e1 | e1
        · rcases (by omega : c2.link = 0 ∨ c2.link = 1) with e2 | e2
          · rw [e0, e1, e2]
            exact snd_vals2_100 hl c0 c1 c2 e0 e1 e2
          · rw [e0, e1, e2]
            exact snd_vals2_101 hl c0 c1 c2 e0 e1 e2
        · rcases (by omega : c2.link = 0 ∨ c2.link = 1) with e2 | e2
          · rw [e0, e1, e2]
            exact snd_vals2_110 hl c0 c1 c2 e0 e1 e2
          · rw [e0, e1, e2]
            exact snd_vals2_111 hl c0 c1 c2 e0 e1 e2
  · obtain ⟨p0, p1, p2, hp⟩ := l3 (hpl.trans h)
    rw [hp] at hl ⊢
    rcases hk with hk | hk | hk
    · obtain ⟨c0, rfl⟩ := l1 hk
      have q0 := hc c0 (by simp)
      show SndA1 _ _ _ (.ow _ 2 [rngP (rng c0 ([p0, p1, p2].getD c0.link.toNat Po.rest))])
      rcases (by omega : c0.link = 0 ∨ c0.link = 1 ∨ c0.link = 2) with e0 | e0 | e0
      · rw [e0]
        exact snd_vals3_0 hl c0 e0
      · rw [e0]
        exact snd_vals3_1 hl c0 e0
      · rw [e0]
        exact snd_vals3_2 hl c0 e0
    · obtain ⟨c0, c1, rfl⟩ := l2 hk
      have q0 := hc c0 (by simp)
      have q1 := hc c1 (by simp)
      show SndA1 _ _ _ (.ow _ 2 [rngP (rng c0 ([p0, p1, p2].getD c0.link.toNat Po.rest)), rngP (rng c1 ([p0, p1, p2].getD c1.link.toNat Po.rest))])
      rcases (by omega : c0.link = 0 ∨ c0.link = 1 ∨ c0.link = 2) with e0 | e0 | e0
      · rcases (by omega : c1.link = 0 ∨ c1.link = 1 ∨ c1.link = 2) with e1 | e1 | e1
        · rw [e0, e1]
          exact snd_vals3_00 hl c0 c1 e0 e1
        · rw [e0, e1]
          exact snd_vals3_01 hl c0 c1 e0 e1
        · rw [e0, e1]
          exact snd_vals3_02 hl c0 c1 e0 e1
      · rcases (by omega : c1.link = 0 ∨ c1.link = 1 ∨ c1.link = 2) with e1 | e1 | e1
        · rw [e0, e1]
          exact snd_vals3_10 hl c0 c1 e0 e1
        · rw [e0, e1]
          exact snd_vals3_11 hl c0 c1 e0 e1
        · rw [e0, e1]
          exact snd_vals3_12 hl c0 c1 e0 e1
      · rcases (by omega : c1.link = 0 ∨ c1.link = 1 ∨ c1.link = 2) with e1 | e1 | e1
        · rw [e0, e1]
          exact snd_vals3_20 hl c0 c1 e0 e1
        · rw [e0, e1]
          exact snd_vals3_21 hl c0 c1 e0 e1
        · rw [e0, e1]
          exact snd_vals3_22 hl c0 c1 e0 e1
    · obtain ⟨c0, c1, c2, rfl⟩ := l3 hk
      have q0 := hc c0 (by simp)
      have q1 := hc c1 (by simp)
      have q2 := hc c2 (by simp)
      show SndA1 _ _ _ (.ow _ 2 [rngP (rng c0 ([p0, p1, p2].getD c0.link.toNat Po.rest)), rngP (rng c1 ([p0, p1, p2].getD c1.link.toNat Po.rest)), rngP (rng c2 ([p0, p1, p2].getD c2.link.toNat Po.rest))])
      rcases (by omega : c0.link = 0 ∨ c0.link = 1 ∨ c0.link = 2) with e0 | e0 | e0
      · rcases (by omega : c1.link = 0 ∨ c1.link = 1 ∨ c1.link = 2) with e1 | e1 | e1
        · rcases (by omega : c2.link = 0 ∨ c2.link = 1 ∨ c2.link = 2) with e2 | e2 | e2
          · rw [e0, e1, e2]
            exact snd_vals3_000 hl c0 c1 c2 e0 e1 e2
          · rw [e0, e1, e2]
            exact snd_vals3_001 hl c0 c1 c2 e0 e1 e2
          · rw [e0, e1, e2]
            exact snd_vals3_002 hl c0 c1 c2 e0 e1 e2
        · rcases (by omega : c2.link = 0 ∨ c2.link = 1 ∨ c2.link = 2) with e2 | e2 | e2
          · rw [e0, e1, e2]
            exact snd_vals3_010 hl c0 c1 c2 e0 e1 e2
          · rw [e0, e1, e2]
            exact snd_vals3_011 hl c0 c1 c2 e0 e1 e2
          · rw [e0, e1, e2]
            exact snd_vals3_012 hl c0 c1 c2 e0 e1 e2
        · rcases (by omega : c2.link = 0 ∨ c2.link = 1 ∨ c2.link = 2) with e2 | e2 | e2
          · rw [e0, e1, e2]
            exact snd_vals3_020 hl c0 c1 c2 e0 e1 e2
          · rw [e0, e1, e2]
            exact snd_vals3_021 hl c0 c1 c2 e0 e1 e2
          · rw [e0, e1, e2]
            exact snd_vals3_022 hl c0 c1 c2 e0 e1 e2
      · rcases (by omega : c1.link = 0 ∨ c1.link = 1 ∨ c1.link = 2) with e1 | e1 | e1
        · rcases (by omega : c2.link = 0 ∨ c2.link = 1 ∨ c2.link = 2) with e2 | e2 | e2
          · rw [e0, e1, e2]
            exact snd_vals3_100 hl c0 c1 c2 e0 e1 e2
          · rw [e0, e1, e2]
            exact snd_vals3_101 hl c0 c1 c2 e0 e1 e2
          · rw [e0, e1, e2]
            exact snd_vals3_102 hl c0 c1 c2 e0 e1 e2
        · rcases (by omega : c2.link = 0 ∨ c2.link = 1 ∨ c2.link = 2) with e2 | e2 | e2
          · rw [e0, e1, e2]
            exact snd_vals3_110 hl c0 c1 c2 e0 e1 e2
          · rw [e0, e1, e2]
            exact snd_vals3_111 hl c0 c1 c2 e0 e1 e2
          · rw [e0, e1, e2]
            exact snd_vals3_112 hl c0 c1 c2 e0 e1 e2
        · rcases (by omega : c2.link = 0 ∨ c2.link = 1 ∨ c2.link = 2) with e2 | e2 | e2
          · rw [e0, e1, e2]
            exact snd_vals3_120 hl c0 c1 c2 e0 e1 e2
          · rw [e0, e1, e2]
            exact snd_vals3_121 hl c0 c1 c2 e0 e1 e2
          · rw [e0, e1, e2]
            exact snd_vals3_122 hl c0 c1 c2 e0 e1 e2
      · rcases (by omega : c1.link = 0 ∨ c1.link = 1 ∨ c1.link = 2) with e1 | e1 | e1
        · rcases (by omega : c2.link = 0 ∨ c2.link = 1 ∨ c2.link = 2) with e2 | e2 | e2
          · rw [e0, e1, e2]
            exact snd_vals3_200 hl c0 c1 c2 e0 e1 e2
          · rw [e0, e1, e2]
            exact snd_vals3_201 hl c0 c1 c2 e0 e1 e2
          · rw [e0, e1, e2]
            exact snd_vals3_202 hl c0 c1 c2 e0 e1 e2
        · rcases (by omega : c2.link = 0 ∨ c2.link = 1 ∨ c2.link = 2) with e2 | e2 | e2
          · rw [e0, e1, e2]
            exact snd_vals3_210 hl c0 c1 c2 e0 e1 e2
          · rw [e0, e1, e2]
            exact snd_vals3_211 hl c0 c1 c2 e0 e1 e2
          · rw [e0, e1, e2]
            exact snd_vals3_212 hl c0 c1 c2 e0 e1 e2
        · rcases (by omega : c2.link = 0 ∨ c2.link = 1 ∨ c2.link = 2) with e2 | e2 | e2
          · rw [e0, e1, e2]
            exact snd_vals3_220 hl c0 c1 c2 e0 e1 e2
          · rw [e0, e1, e2]
            exact snd_vals3_221 hl c0 c1 c2 e0 e1 e2
          · rw [e0, e1, e2]
            exact snd_vals3_222 hl c0 c1 c2 e0 e1 e2
theorem decs {l : List Int} {bx : List Iv} {cs : List Cn} {G : Bool} (hi : SndA1 Tryz.prog 41 [robP l, .l (bx.map Rx.ivC)] (.v (.b true))) (hk : cs.length = 1 ∨ cs.length = 2 ∨ cs.length = 3) (hc : SndA1 Tryz.prog 40 [robP l, .l (cs.map cp)] (.v (.b G)))
    (hv : G = true → SndA1 Tryz.prog 42 [robP l, .l (cs.map cp), .l (bx.map Rx.ivC)] (.ow 37 2 ((cs.map (rngOf l bx)).map rngP))) :
    SndA1 Tryz.prog 19 [robP l, .l (cs.map cp), .l (bx.map Rx.ivC)] (.v (.b (G && hld cs (cs.map (rngOf l bx))))) ∧ ∃ i, SndA1 Tryz.prog 18 [robP l, .l (cs.map cp), .l (bx.map Rx.ivC)] (.v (.t [.n .i64 i, .b (G && brk cs (cs.map (rngOf l bx)))])) := by
  cases G with
  | false =>
    rcases hk with hk | hk | hk
    · obtain ⟨c0, rfl⟩ := l1 hk
      exact ⟨snd_Holds1_0 c0 hc hi, _, snd_Broken1_0 c0 hc hi⟩
    · obtain ⟨c0, c1, rfl⟩ := l2 hk
      exact ⟨snd_Holds2_0 c0 c1 hc hi, _, snd_Broken2_0 c0 c1 hc hi⟩
    · obtain ⟨c0, c1, c2, rfl⟩ := l3 hk
      exact ⟨snd_Holds3_0 c0 c1 c2 hc hi, _, snd_Broken3_0 c0 c1 c2 hc hi⟩
  | true =>
    have hv := hv rfl
    rcases hk with hk | hk | hk
    · obtain ⟨c0, rfl⟩ := l1 hk
      exact ⟨snd_Holds1 c0 (rngOf l bx c0) hc hi hv, _, snd_Broken1 c0 (rngOf l bx c0) hc hi hv⟩
    · obtain ⟨c0, c1, rfl⟩ := l2 hk
      exact ⟨snd_Holds2 c0 c1 (rngOf l bx c0) (rngOf l bx c1) hc hi hv, _, snd_Broken2 c0 c1 (rngOf l bx c0) (rngOf l bx c1) hc hi hv⟩
    · obtain ⟨c0, c1, c2, rfl⟩ := l3 hk
      exact ⟨snd_Holds3 c0 c1 c2 (rngOf l bx c0) (rngOf l bx c1) (rngOf l bx c2) hc hi hv, _, snd_Broken3 c0 c1 c2 (rngOf l bx c0) (rngOf l bx c1) (rngOf l bx c2) hc hi hv⟩
theorem val1 {l : List Int} {bx : List Iv} {c : Cn} {G : Bool} (hi : SndA1 Tryz.prog 41 [robP l, .l (bx.map Rx.ivC)] (.v (.b true))) (hc : SndA1 Tryz.prog 40 [robP l, .l [cp c]] (.v (.b G)))
    (hv : G = true → SndA1 Tryz.prog 42 [robP l, .l [cp c], .l (bx.map Rx.ivC)] (.ow 37 2 [rngP (rngOf l bx c)])) :
    SndA1 Tryz.prog 13 [robP l, .a (cp c), .l (bx.map Rx.ivC)] (.v (.t [.a [.n .i64 (bif G then (rngOf l bx c).1 else 0), .n .i64 (bif G then (rngOf l bx c).2 else 0)], .b G])) := by
  cases G with
  | false => exact snd_Value1_0 c hc hi
  | true => exact snd_Value1 c (rngOf l bx c) hc hi (hv rfl)
theorem snd_within {l o w : List Int} (hw : w.length ≤ 9223372036854775807) : SndA1 Tryz.prog 17 [boxP l o, intsP w] (.v (.l ((wths w (boxOf l o) (nJ l 0)).map Rx.ivC))) := by
  have hn := nJ_b l 0
  have hbl := boxOf_len l o
  have hv : ∀ a ∈ boxOf l o, Iv.valid a = true := bxs_valid (jsOf_b l 0 _) _
  refine snd_told (X := Option Addr × Nat) (Φ := fun x => nJ l 0 ≤ x.2) (V := fun x => .slice x.1 (nJ l 0) x.2) (G := fun x => SlcIs 2 x.1 ((wths w (boxOf l o) (nJ l 0)).map ivc)) (yW Tryz.func17 (by kernel_rfl) (by kernel_rfl)) (fun W F vals hF hal => ?_) (fun x W D F hP hG hd hF => rp_told (g := ivc) (sz := 2) (fun _ => rfl) (fun _ => rfl) (by have := wths_len (l := w) (bs := boxOf l o) (nJ l 0) (by omega); exact this) hP (by decide) hd hG (fun _ h => h) hF)
  obtain ⟨v1, vs, rfl, h1, hal⟩ := al_uncons hal
  obtain ⟨v2, vs, rfl, h2, hal⟩ := al_uncons hal
  obtain rfl := al_unnil hal
  obtain ⟨ab, cb, rfl, _, hS⟩ := slc_told (sz := 2) (g := ivc) (fun _ => rfl) (fun _ => rfl) hbl hF h1
  exact mkWithinT v2 w ab (nJ l 0) cb (boxOf l o) (by omega) hbl (fun a ha => ok_of (hv a ha)) W (ints_of_rp hw hF h2) hS
theorem snd_round {q : Int} : SndA1 Tryz.prog 16 [.n .i64 q, .n .i64 3] (.v (.n .i64 (q % 3))) := snd_of_rets (yW Tryz.func16 (by kernel_rfl) (by kernel_rfl)) rfl rfl (fun w => mRound _ _ (by decide) w)
theorem snd_mono {l m o w : List Int} {q : Int} (hl : l.length ≤ 9223372036854775807) (hm : m.length ≤ 9223372036854775807) (ho : o.length ≤ 9223372036854775807) (hw : w.length ≤ 9223372036854775807) (haw : SndA1 Tryz.prog 14 [] (.v (.b true))) : SndA1 Tryz.prog 4 [intsP l, intsP m, intsP o, intsP w, .n .i64 q] (.v (.b true)) := by
  have hn := nJ_b l 0
  have hbl := boxOf_len l o
  have hbv : ∀ a ∈ boxOf l o, Iv.valid a = true := bxs_valid (jsOf_b l 0 _) _
  have hbd : ∀ a ∈ boxOf l o, Bd 1000000 a := bxs_bd (jsOf_b l 0 _) _
  have hok := bxs_ok (l := o) (jsOf_b l 0 (nJ l 0)) (nJ l 0) (by rw [jsOf_len]; exact Nat.le_refl _)
  change ∀ (k : Nat) (j : J) (b : Iv), (jsOf l 0 (nJ l 0)).1[k]? = some j → (boxOf l o)[k]? = some b → bxOk j b at hok
  have hsub : BSub (wths w (boxOf l o) (nJ l 0)) (boxOf l o) := by have := wths_sub (l := w) (bs := boxOf l o) (fun a ha => ok_of (hbv a ha)); rw [hbl] at this; exact this
  have hwi := snd_within (l := l) (o := o) hw
  have hbo := snd_box (l := l) ho
  unfold boxP at hwi hbo
  generalize hax : wths w (boxOf l o) (nJ l 0) = ax at *
  generalize boxOf l o = bx at *
  have hal : ax.length = nJ l 0 := hsub.1.trans hbl
  have hav := hsub.valid
  have hok2 : ∀ (k : Nat) (j : J) (b : Iv), (jsOf l 0 (nJ l 0)).1[k]? = some j → ax[k]? = some b → bxOk j b := fun k j a hj ha => by
    have hk := (List.getElem?_eq_some_iff.1 ha).1
    have hb : bx[k]? = some (bx[k]'(by omega)) := List.getElem?_eq_getElem (by omega)
    have h1 := hok k j _ hj hb
    have h2 := hsub.2 k a _ ha hb
    have h3 := h2.ok
    have h4 := h2.lo
    have h5 := h2.hi
    unfold Ok at h3
    unfold bxOk at *
    omega
  have hib := ins_ok hbl hok
  have hia := ins_ok hal hok2
  have hls : LSub (lksOf l ax) (lksOf l bx) := sub_lks hsub (nJ l 0)
  have hbp : ∀ i, BP 72000000 ((lksOf l bx).getD i Po.rest) := fun i => by
    rw [List.getD_eq_getElem?_getD]
    cases hg : (lksOf l bx)[i]? with
    | none => exact bp_rest (by decide)
    | some p =>
      have := bp_lks (js := (jsOf l 0 (nJ l 0)).1) (bx := bx) (fun j hj => by
        obtain ⟨k, hk⟩ := List.mem_iff_getElem?.1 hj
        obtain ⟨_, _, _, _, _, _, _, _, h1, h2, h3, _⟩ := made_JOK l 0 (nJ l 0) (nJ_b l 0).2.1 k j hk
        exact ⟨h1, h2, h3⟩) hbd (nJ l 0) (by omega) p (List.mem_of_getElem? hg)
      exact bp_mono this (by omega)
  have hu : 0 ≤ q % 3 ∧ q % 3 < 3 := ⟨Int.emod_nonneg _ (by decide), Int.emod_lt_of_pos _ (by decide)⟩
  obtain ⟨k, hk, hk2⟩ : ∃ k : Nat, (1 ≤ k ∧ k ≤ 3) ∧ IntKind.i64.wrap (1 + q % 3) = (k : Int) := ⟨(1 + q % 3).toNat, by omega, by rw [zW (by omega)]; omega⟩
  have hwd := snd_wide (l := l) hk hm
  have hlen : ((consOf l m k).map widen).length = k := by rw [List.length_map]; exact cnsOf_len _ _ _ _
  have hzb : ∀ c ∈ (consOf l m k).map widen, ZB c.p := fun c hc => by
    obtain ⟨d, hd, rfl⟩ := List.mem_map.1 hc
    exact cns_zb _ _ _ k d hd
  rw [← hk2] at hwd
  generalize (consOf l m k).map widen = cs at *
  have hk3 : cs.length = 1 ∨ cs.length = 2 ∨ cs.length = 3 := by omega
  have hmon : ∀ c ∈ cs, (rngOf l bx c).1 ≤ (rngOf l ax c).1 ∧ (rngOf l ax c).2 ≤ (rngOf l bx c).2 ∧ (rngOf l bx c).1 ≤ (rngOf l bx c).2 := fun c hc => rng_mono (hls.getD _) (hbp _) (hzb c hc)
  obtain ⟨G, hG, hGl⟩ := chk_ex (l := l) hk3
  obtain ⟨hHb, ib, hBb⟩ := decs hib hk3 hG fun h => vals_ok hbl hbv hk3 (hGl h)
  obtain ⟨hHa, ia, hBa⟩ := decs hia hk3 hG fun h => vals_ok hal hav hk3 (hGl h)
  have f4 : (G && hld cs (cs.map (rngOf l bx))) = true → (G && hld cs (cs.map (rngOf l ax))) = true := by
    rw [Bool.and_eq_true, Bool.and_eq_true, hld_all, hld_all]
    exact fun ⟨h1, h2⟩ => ⟨h1, fun c hc => by have a := h2 c hc; have b := hmon c hc; omega⟩
  have f5 : (G && brk cs (cs.map (rngOf l bx))) = true → (G && brk cs (cs.map (rngOf l ax))) = true := by
    rw [Bool.and_eq_true, Bool.and_eq_true, brk_any, brk_any]
    exact fun ⟨h1, c, hc, h2⟩ => ⟨h1, c, hc, by have b := hmon c hc; omega⟩
  have f6 : (G && brk cs (cs.map (rngOf l bx))) = true → (G && hld cs (cs.map (rngOf l bx))) = false := by
    rw [Bool.and_eq_true, brk_any]
    rintro ⟨h1, c, hc, h2⟩
    cases hh : (G && hld cs (cs.map (rngOf l bx))) with
    | false => rfl
    | true =>
      rw [Bool.and_eq_true, hld_all] at hh
      have a := hh.2 c hc
      have b := hmon c hc
      omega
  generalize hhb : (G && hld cs (cs.map (rngOf l bx))) = hb at *
  generalize hha : (G && hld cs (cs.map (rngOf l ax))) = ha at *
  generalize hbb : (G && brk cs (cs.map (rngOf l bx))) = bb at *
  generalize hba : (G && brk cs (cs.map (rngOf l ax))) = ba at *
  have key : ∀ c ∈ cs, ∃ G1 : Bool, SndA1 Tryz.prog 13 [robP l, .a (cp c), .l (bx.map Rx.ivC)] (.v (.t [.a [.n .i64 (bif G1 then (rngOf l bx c).1 else 0), .n .i64 (bif G1 then (rngOf l bx c).2 else 0)], .b G1])) ∧ SndA1 Tryz.prog 13 [robP l, .a (cp c), .l (ax.map Rx.ivC)] (.v (.t [.a [.n .i64 (bif G1 then (rngOf l ax c).1 else 0), .n .i64 (bif G1 then (rngOf l ax c).2 else 0)], .b G1])) := fun c hc => by
    obtain ⟨G1, hG1, hl1⟩ := chk_ex (l := l) (cs := [c]) (.inl rfl)
    exact ⟨G1, val1 hib hG1 fun h => vals_ok (cs := [c]) hbl hbv (.inl rfl) (hl1 h), val1 hia hG1 fun h => vals_ok (cs := [c]) hal hav (.inl rfl) (hl1 h)⟩
  clear hhb hha hbb hba
  have hR : SndA1 Tryz.prog 10 [intsP l] (.v (robP l)) := snd_robot hl
  rcases hk3 with hk3 | hk3 | hk3
  · obtain ⟨c0, rfl⟩ := l1 hk3
    obtain ⟨G1, hV1, hV2⟩ := key c0 (by simp)
    have hm0 := hmon c0 (by simp)
    by_cases heq : bx.map Rx.ivC = ax.map Rx.ivC
    · rw [← heq] at hwi hHa hBa hV2
      refine kY (N := 60) tabOk mixed (OrL.ok (l := [(10, o_cr [intsP l] (.v (robP l))), (16, o_cr [.n .i64 q, .n .i64 3] (.v (.n .i64 (q % 3)))), (15, o_cr [robP l, .n .i64 (IntKind.i64.wrap (1 + q % 3)), intsP m] (.ow 31 10 [cp c0])), (12, o_cr [robP l, intsP o] (.v (.l (bx.map Rx.ivC)))), (17, o_cr [.l (bx.map Rx.ivC), intsP w] (.v (.l (bx.map Rx.ivC)))), (13, o_cb [robP l, .a (cp c0)] (.l (bx.map Rx.ivC)) (.l (bx.map Rx.ivC)) (fun b => .v (.t [.a [.n .i64 ((fun _ => (bif G1 then (rngOf l bx c0).1 else 0)) b), .n .i64 ((fun _ => (bif G1 then (rngOf l bx c0).2 else 0)) b)], .b ((fun _ => G1) b)]))), (18, o_cb [robP l, .l [cp c0]] (.l (bx.map Rx.ivC)) (.l (bx.map Rx.ivC)) (fun b => .v (.t [.n .i64 ((fun _ => ib) b), .b ((fun _ => bb) b)]))), (19, o_cb [robP l, .l [cp c0]] (.l (bx.map Rx.ivC)) (.l (bx.map Rx.ivC)) (fun b => .v (.b ((fun _ => hb) b)))), (14, o_cr [] (.v (.b true)))]) ⟨ok_cr hR, ok_cr snd_round, ok_cr hwd, ok_cr hbo, ok_cr hwi, ok_cb hV1 hV1, ok_cb hBb hBb, ok_cb hHb hHb, ok_cr haw, trivial⟩) ?_
      exact sp_law1 _ _ _ _ (bx.map Rx.ivC) _ _ _ _ _ c0 (fun _ => (bif G1 then (rngOf l bx c0).1 else 0)) (fun _ => (bif G1 then (rngOf l bx c0).2 else 0)) (fun _ => ib) (fun _ => G1) (fun _ => bb) (fun _ => hb) rfl (fun _ => Int.le_refl _) (fun _ => Int.le_refl _) (fun hg => by have hg1 : G1 = true := hg; simp only [hg1, cond_true]; exact hm0.2.2) (fun h => h) (fun h => h) f6
    · have hne : gEq (.l (ax.map Rx.ivC)) (.l (bx.map Rx.ivC)) = false := by
        cases hq : gEq (.l (ax.map Rx.ivC)) (.l (bx.map Rx.ivC)) with
        | false => rfl
        | true => have := gEq_eq hq; simp only [PV.l.injEq] at this; exact absurd this.symm heq
      refine kY (N := 60) tabOk mixed (OrL.ok (l := [(10, o_cr [intsP l] (.v (robP l))), (16, o_cr [.n .i64 q, .n .i64 3] (.v (.n .i64 (q % 3)))), (15, o_cr [robP l, .n .i64 (IntKind.i64.wrap (1 + q % 3)), intsP m] (.ow 31 10 [cp c0])), (12, o_cr [robP l, intsP o] (.v (.l (bx.map Rx.ivC)))), (17, o_cr [.l (bx.map Rx.ivC), intsP w] (.v (.l (ax.map Rx.ivC)))), (13, o_cb [robP l, .a (cp c0)] (.l (bx.map Rx.ivC)) (.l (ax.map Rx.ivC)) (fun b => .v (.t [.a [.n .i64 ((fun b => bif gEq b (.l (bx.map Rx.ivC)) then (bif G1 then (rngOf l bx c0).1 else 0) else (bif G1 then (rngOf l ax c0).1 else 0)) b), .n .i64 ((fun b => bif gEq b (.l (bx.map Rx.ivC)) then (bif G1 then (rngOf l bx c0).2 else 0) else (bif G1 then (rngOf l ax c0).2 else 0)) b)], .b ((fun _ => G1) b)]))), (18, o_cb [robP l, .l [cp c0]] (.l (bx.map Rx.ivC)) (.l (ax.map Rx.ivC)) (fun b => .v (.t [.n .i64 ((fun b => bif gEq b (.l (bx.map Rx.ivC)) then ib else ia) b), .b ((fun b => bif gEq b (.l (bx.map Rx.ivC)) then bb else ba) b)]))), (19, o_cb [robP l, .l [cp c0]] (.l (bx.map Rx.ivC)) (.l (ax.map Rx.ivC)) (fun b => .v (.b ((fun b => bif gEq b (.l (bx.map Rx.ivC)) then hb else ha) b)))), (14, o_cr [] (.v (.b true)))]) ⟨ok_cr hR, ok_cr snd_round, ok_cr hwd, ok_cr hbo, ok_cr hwi, ok_cb (by simp only [kU, cond_true]; exact hV1) (by simp only [hne, cond_false]; exact hV2), ok_cb (by simp only [kU, cond_true]; exact hBb) (by simp only [hne, cond_false]; exact hBa), ok_cb (by simp only [kU, cond_true]; exact hHb) (by simp only [hne, cond_false]; exact hHa), ok_cr haw, trivial⟩) ?_
      exact sp_law1 _ _ _ _ (ax.map Rx.ivC) _ _ _ _ _ c0 (fun b => bif gEq b (.l (bx.map Rx.ivC)) then (bif G1 then (rngOf l bx c0).1 else 0) else (bif G1 then (rngOf l ax c0).1 else 0)) (fun b => bif gEq b (.l (bx.map Rx.ivC)) then (bif G1 then (rngOf l bx c0).2 else 0) else (bif G1 then (rngOf l ax c0).2 else 0)) (fun b => bif gEq b (.l (bx.map Rx.ivC)) then ib else ia) (fun _ => G1) (fun b => bif gEq b (.l (bx.map Rx.ivC)) then bb else ba) (fun b => bif gEq b (.l (bx.map Rx.ivC)) then hb else ha) rfl (fun hg => by have hg1 : G1 = true := hg; simp only [kU, hne, cond_true, cond_false]; simp only [hg1, cond_true]; exact hm0.1) (fun hg => by have hg1 : G1 = true := hg; simp only [kU, hne, cond_true, cond_false]; simp only [hg1, cond_true]; exact hm0.2.1) (fun hg => by have hg1 : G1 = true := hg; simp only [kU, hne, cond_true, cond_false]; simp only [hg1, cond_true]; exact hm0.2.2) (by simp only [kU, hne, cond_true, cond_false]; exact f4) (by simp only [kU, hne, cond_true, cond_false]; exact f5) (by simp only [kU, hne, cond_true, cond_false]; exact f6)
  · obtain ⟨c0, c1, rfl⟩ := l2 hk3
    obtain ⟨G1, hV1, hV2⟩ := key c0 (by simp)
    have hm0 := hmon c0 (by simp)
    by_cases heq : bx.map Rx.ivC = ax.map Rx.ivC
    · rw [← heq] at hwi hHa hBa hV2
      refine kY (N := 60) tabOk mixed (OrL.ok (l := [(10, o_cr [intsP l] (.v (robP l))), (16, o_cr [.n .i64 q, .n .i64 3] (.v (.n .i64 (q % 3)))), (15, o_cr [robP l, .n .i64 (IntKind.i64.wrap (1 + q % 3)), intsP m] (.ow 31 10 [cp c0, cp c1])), (12, o_cr [robP l, intsP o] (.v (.l (bx.map Rx.ivC)))), (17, o_cr [.l (bx.map Rx.ivC), intsP w] (.v (.l (bx.map Rx.ivC)))), (13, o_cb [robP l, .a (cp c0)] (.l (bx.map Rx.ivC)) (.l (bx.map Rx.ivC)) (fun b => .v (.t [.a [.n .i64 ((fun _ => (bif G1 then (rngOf l bx c0).1 else 0)) b), .n .i64 ((fun _ => (bif G1 then (rngOf l bx c0).2 else 0)) b)], .b ((fun _ => G1) b)]))), (18, o_cb [robP l, .l [cp c0, cp c1]] (.l (bx.map Rx.ivC)) (.l (bx.map Rx.ivC)) (fun b => .v (.t [.n .i64 ((fun _ => ib) b), .b ((fun _ => bb) b)]))), (19, o_cb [robP l, .l [cp c0, cp c1]] (.l (bx.map Rx.ivC)) (.l (bx.map Rx.ivC)) (fun b => .v (.b ((fun _ => hb) b)))), (14, o_cr [] (.v (.b true)))]) ⟨ok_cr hR, ok_cr snd_round, ok_cr hwd, ok_cr hbo, ok_cr hwi, ok_cb hV1 hV1, ok_cb hBb hBb, ok_cb hHb hHb, ok_cr haw, trivial⟩) ?_
      exact sp_law2 _ _ _ _ (bx.map Rx.ivC) _ _ _ _ _ c0 c1 (fun _ => (bif G1 then (rngOf l bx c0).1 else 0)) (fun _ => (bif G1 then (rngOf l bx c0).2 else 0)) (fun _ => ib) (fun _ => G1) (fun _ => bb) (fun _ => hb) rfl (fun _ => Int.le_refl _) (fun _ => Int.le_refl _) (fun hg => by have hg1 : G1 = true := hg; simp only [hg1, cond_true]; exact hm0.2.2) (fun h => h) (fun h => h) f6
    · have hne : gEq (.l (ax.map Rx.ivC)) (.l (bx.map Rx.ivC)) = false := by
        cases hq : gEq (.l (ax.map Rx.ivC)) (.l (bx.map Rx.ivC)) with
        | false => rfl
        | true => have := gEq_eq hq; simp only [PV.l.injEq] at this; exact absurd this.symm heq
      refine kY (N := 60) tabOk mixed (OrL.ok (l := [(10, o_cr [intsP l] (.v (robP l))), (16, o_cr [.n .i64 q, .n .i64 3] (.v (.n .i64 (q % 3)))), (15, o_cr [robP l, .n .i64 (IntKind.i64.wrap (1 + q % 3)), intsP m] (.ow 31 10 [cp c0, cp c1])), (12, o_cr [robP l, intsP o] (.v (.l (bx.map Rx.ivC)))), (17, o_cr [.l (bx.map Rx.ivC), intsP w] (.v (.l (ax.map Rx.ivC)))), (13, o_cb [robP l, .a (cp c0)] (.l (bx.map Rx.ivC)) (.l (ax.map Rx.ivC)) (fun b => .v (.t [.a [.n .i64 ((fun b => bif gEq b (.l (bx.map Rx.ivC)) then (bif G1 then (rngOf l bx c0).1 else 0) else (bif G1 then (rngOf l ax c0).1 else 0)) b), .n .i64 ((fun b => bif gEq b (.l (bx.map Rx.ivC)) then (bif G1 then (rngOf l bx c0).2 else 0) else (bif G1 then (rngOf l ax c0).2 else 0)) b)], .b ((fun _ => G1) b)]))), (18, o_cb [robP l, .l [cp c0, cp c1]] (.l (bx.map Rx.ivC)) (.l (ax.map Rx.ivC)) (fun b => .v (.t [.n .i64 ((fun b => bif gEq b (.l (bx.map Rx.ivC)) then ib else ia) b), .b ((fun b => bif gEq b (.l (bx.map Rx.ivC)) then bb else ba) b)]))), (19, o_cb [robP l, .l [cp c0, cp c1]] (.l (bx.map Rx.ivC)) (.l (ax.map Rx.ivC)) (fun b => .v (.b ((fun b => bif gEq b (.l (bx.map Rx.ivC)) then hb else ha) b)))), (14, o_cr [] (.v (.b true)))]) ⟨ok_cr hR, ok_cr snd_round, ok_cr hwd, ok_cr hbo, ok_cr hwi, ok_cb (by simp only [kU, cond_true]; exact hV1) (by simp only [hne, cond_false]; exact hV2), ok_cb (by simp only [kU, cond_true]; exact hBb) (by simp only [hne, cond_false]; exact hBa), ok_cb (by simp only [kU, cond_true]; exact hHb) (by simp only [hne, cond_false]; exact hHa), ok_cr haw, trivial⟩) ?_
      exact sp_law2 _ _ _ _ (ax.map Rx.ivC) _ _ _ _ _ c0 c1 (fun b => bif gEq b (.l (bx.map Rx.ivC)) then (bif G1 then (rngOf l bx c0).1 else 0) else (bif G1 then (rngOf l ax c0).1 else 0)) (fun b => bif gEq b (.l (bx.map Rx.ivC)) then (bif G1 then (rngOf l bx c0).2 else 0) else (bif G1 then (rngOf l ax c0).2 else 0)) (fun b => bif gEq b (.l (bx.map Rx.ivC)) then ib else ia) (fun _ => G1) (fun b => bif gEq b (.l (bx.map Rx.ivC)) then bb else ba) (fun b => bif gEq b (.l (bx.map Rx.ivC)) then hb else ha) rfl (fun hg => by have hg1 : G1 = true := hg; simp only [kU, hne, cond_true, cond_false]; simp only [hg1, cond_true]; exact hm0.1) (fun hg => by have hg1 : G1 = true := hg; simp only [kU, hne, cond_true, cond_false]; simp only [hg1, cond_true]; exact hm0.2.1) (fun hg => by have hg1 : G1 = true := hg; simp only [kU, hne, cond_true, cond_false]; simp only [hg1, cond_true]; exact hm0.2.2) (by simp only [kU, hne, cond_true, cond_false]; exact f4) (by simp only [kU, hne, cond_true, cond_false]; exact f5) (by simp only [kU, hne, cond_true, cond_false]; exact f6)
  · obtain ⟨c0, c1, c2, rfl⟩ := l3 hk3
    obtain ⟨G1, hV1, hV2⟩ := key c0 (by simp)
    have hm0 := hmon c0 (by simp)
    by_cases heq : bx.map Rx.ivC = ax.map Rx.ivC
    · rw [← heq] at hwi hHa hBa hV2
      refine kY (N := 60) tabOk mixed (OrL.ok (l := [(10, o_cr [intsP l] (.v (robP l))), (16, o_cr [.n .i64 q, .n .i64 3] (.v (.n .i64 (q % 3)))), (15, o_cr [robP l, .n .i64 (IntKind.i64.wrap (1 + q % 3)), intsP m] (.ow 31 10 [cp c0, cp c1, cp c2])), (12, o_cr [robP l, intsP o] (.v (.l (bx.map Rx.ivC)))), (17, o_cr [.l (bx.map Rx.ivC), intsP w] (.v (.l (bx.map Rx.ivC)))), (13, o_cb [robP l, .a (cp c0)] (.l (bx.map Rx.ivC)) (.l (bx.map Rx.ivC)) (fun b => .v (.t [.a [.n .i64 ((fun _ => (bif G1 then (rngOf l bx c0).1 else 0)) b), .n .i64 ((fun _ => (bif G1 then (rngOf l bx c0).2 else 0)) b)], .b ((fun _ => G1) b)]))), (18, o_cb [robP l, .l [cp c0, cp c1, cp c2]] (.l (bx.map Rx.ivC)) (.l (bx.map Rx.ivC)) (fun b => .v (.t [.n .i64 ((fun _ => ib) b), .b ((fun _ => bb) b)]))), (19, o_cb [robP l, .l [cp c0, cp c1, cp c2]] (.l (bx.map Rx.ivC)) (.l (bx.map Rx.ivC)) (fun b => .v (.b ((fun _ => hb) b)))), (14, o_cr [] (.v (.b true)))]) ⟨ok_cr hR, ok_cr snd_round, ok_cr hwd, ok_cr hbo, ok_cr hwi, ok_cb hV1 hV1, ok_cb hBb hBb, ok_cb hHb hHb, ok_cr haw, trivial⟩) ?_
      exact sp_law3 _ _ _ _ (bx.map Rx.ivC) _ _ _ _ _ c0 c1 c2 (fun _ => (bif G1 then (rngOf l bx c0).1 else 0)) (fun _ => (bif G1 then (rngOf l bx c0).2 else 0)) (fun _ => ib) (fun _ => G1) (fun _ => bb) (fun _ => hb) rfl (fun _ => Int.le_refl _) (fun _ => Int.le_refl _) (fun hg => by have hg1 : G1 = true := hg; simp only [hg1, cond_true]; exact hm0.2.2) (fun h => h) (fun h => h) f6
    · have hne : gEq (.l (ax.map Rx.ivC)) (.l (bx.map Rx.ivC)) = false := by
        cases hq : gEq (.l (ax.map Rx.ivC)) (.l (bx.map Rx.ivC)) with
        | false => rfl
        | true => have := gEq_eq hq; simp only [PV.l.injEq] at this; exact absurd this.symm heq
      refine kY (N := 60) tabOk mixed (OrL.ok (l := [(10, o_cr [intsP l] (.v (robP l))), (16, o_cr [.n .i64 q, .n .i64 3] (.v (.n .i64 (q % 3)))), (15, o_cr [robP l, .n .i64 (IntKind.i64.wrap (1 + q % 3)), intsP m] (.ow 31 10 [cp c0, cp c1, cp c2])), (12, o_cr [robP l, intsP o] (.v (.l (bx.map Rx.ivC)))), (17, o_cr [.l (bx.map Rx.ivC), intsP w] (.v (.l (ax.map Rx.ivC)))), (13, o_cb [robP l, .a (cp c0)] (.l (bx.map Rx.ivC)) (.l (ax.map Rx.ivC)) (fun b => .v (.t [.a [.n .i64 ((fun b => bif gEq b (.l (bx.map Rx.ivC)) then (bif G1 then (rngOf l bx c0).1 else 0) else (bif G1 then (rngOf l ax c0).1 else 0)) b), .n .i64 ((fun b => bif gEq b (.l (bx.map Rx.ivC)) then (bif G1 then (rngOf l bx c0).2 else 0) else (bif G1 then (rngOf l ax c0).2 else 0)) b)], .b ((fun _ => G1) b)]))), (18, o_cb [robP l, .l [cp c0, cp c1, cp c2]] (.l (bx.map Rx.ivC)) (.l (ax.map Rx.ivC)) (fun b => .v (.t [.n .i64 ((fun b => bif gEq b (.l (bx.map Rx.ivC)) then ib else ia) b), .b ((fun b => bif gEq b (.l (bx.map Rx.ivC)) then bb else ba) b)]))), (19, o_cb [robP l, .l [cp c0, cp c1, cp c2]] (.l (bx.map Rx.ivC)) (.l (ax.map Rx.ivC)) (fun b => .v (.b ((fun b => bif gEq b (.l (bx.map Rx.ivC)) then hb else ha) b)))), (14, o_cr [] (.v (.b true)))]) ⟨ok_cr hR, ok_cr snd_round, ok_cr hwd, ok_cr hbo, ok_cr hwi, ok_cb (by simp only [kU, cond_true]; exact hV1) (by simp only [hne, cond_false]; exact hV2), ok_cb (by simp only [kU, cond_true]; exact hBb) (by simp only [hne, cond_false]; exact hBa), ok_cb (by simp only [kU, cond_true]; exact hHb) (by simp only [hne, cond_false]; exact hHa), ok_cr haw, trivial⟩) ?_
      exact sp_law3 _ _ _ _ (ax.map Rx.ivC) _ _ _ _ _ c0 c1 c2 (fun b => bif gEq b (.l (bx.map Rx.ivC)) then (bif G1 then (rngOf l bx c0).1 else 0) else (bif G1 then (rngOf l ax c0).1 else 0)) (fun b => bif gEq b (.l (bx.map Rx.ivC)) then (bif G1 then (rngOf l bx c0).2 else 0) else (bif G1 then (rngOf l ax c0).2 else 0)) (fun b => bif gEq b (.l (bx.map Rx.ivC)) then ib else ia) (fun _ => G1) (fun b => bif gEq b (.l (bx.map Rx.ivC)) then bb else ba) (fun b => bif gEq b (.l (bx.map Rx.ivC)) then hb else ha) rfl (fun hg => by have hg1 : G1 = true := hg; simp only [kU, hne, cond_true, cond_false]; simp only [hg1, cond_true]; exact hm0.1) (fun hg => by have hg1 : G1 = true := hg; simp only [kU, hne, cond_true, cond_false]; simp only [hg1, cond_true]; exact hm0.2.1) (fun hg => by have hg1 : G1 = true := hg; simp only [kU, hne, cond_true, cond_false]; simp only [hg1, cond_true]; exact hm0.2.2) (by simp only [kU, hne, cond_true, cond_false]; exact f4) (by simp only [kU, hne, cond_true, cond_false]; exact f5) (by simp only [kU, hne, cond_true, cond_false]; exact f6)
end Go.Proofs.YtnlnbnjnapofmaaGreat.My
namespace Go.Proofs.YtnlnbnjnapofmaaGreat.Ax
open Go.Rx Rt
noncomputable def k137 : List (List PV × Ret) := [([.a [.n .i64 3, .n .i64 4]], .v (.b true)),
  ([.a [.n .i64 0, .n .i64 64]], .v (.b true)),
  ([.a [.n .i64 5, .n .i64 7]], .v (.b true)),
  ([.a [.n .i64 65536, .n .i64 65536]], .v (.b true)),
  ([.a [.n .i64 0, .n .i64 0]], .v (.b true)),
  ([.a [.n .i64 2, .n .i64 8]], .v (.b true))]
noncomputable def t137 : Known := (137, k137) :: ([] : Known)
theorem ok137 : Known.Ok Tryz.prog t137 := Known.add tabOk mixed (Known.nil _) (N := 60) (by kernel_rfl)
noncomputable def k103 : List (List PV × Ret) := [([.a [.n .i64 3, .n .i64 4], .a [.n .i64 0, .n .i64 64]], .v (.b true)),
  ([.a [.n .i64 5, .n .i64 7], .a [.n .i64 0, .n .i64 64]], .v (.b true)),
  ([.a [.n .i64 65536, .n .i64 65536], .a [.n .i64 65536, .n .i64 65536]], .v (.b true)),
  ([.a [.n .i64 0, .n .i64 0], .a [.n .i64 65536, .n .i64 65536]], .v (.b true)),
  ([.a [.n .i64 0, .n .i64 0], .a [.n .i64 0, .n .i64 0]], .v (.b true)),
  ([.a [.n .i64 65536, .n .i64 65536], .a [.n .i64 0, .n .i64 0]], .v (.b true)),
  ([.a [.n .i64 65536, .n .i64 65536], .a [.n .i64 3, .n .i64 4]], .v (.b true)),
  ([.a [.n .i64 0, .n .i64 0], .a [.n .i64 3, .n .i64 4]], .v (.b true)),
  ([.a [.n .i64 3, .n .i64 4], .a [.n .i64 0, .n .i64 0]], .v (.b true)),
  ([.a [.n .i64 0, .n .i64 0], .a [.n .i64 5, .n .i64 7]], .v (.b true)),
  ([.a [.n .i64 65536, .n .i64 65536], .a [.n .i64 5, .n .i64 7]], .v (.b true)),
  ([.a [.n .i64 5, .n .i64 7], .a [.n .i64 0, .n .i64 0]], .v (.b true)),
  ([.a [.n .i64 65536, .n .i64 65536], .a [.n .i64 0, .n .i64 64]], .v (.b true)),
  ([.a [.n .i64 0, .n .i64 0], .a [.n .i64 0, .n .i64 64]], .v (.b true)),
  ([.a [.n .i64 0, .n .i64 64], .a [.n .i64 0, .n .i64 0]], .v (.b true)),
  ([.a [.n .i64 0, .n .i64 0], .a [.n .i64 2, .n .i64 8]], .v (.b true)),
  ([.a [.n .i64 65536, .n .i64 65536], .a [.n .i64 2, .n .i64 8]], .v (.b true)),
  ([.a [.n .i64 2, .n .i64 8], .a [.n .i64 0, .n .i64 0]], .v (.b true))]
noncomputable def t103 : Known := (103, k103) :: t137
theorem ok103 : Known.Ok Tryz.prog t103 := Known.add tabOk mixed (ok137) (N := 60) (by kernel_rfl)
noncomputable def k120 : List (List PV × Ret) := [([.n .i64 0, .n .i64 0], .v (.a [.n .i64 0, .n .i64 0])),
  ([.n .i64 65536, .n .i64 65536], .v (.a [.n .i64 65536, .n .i64 65536])),
  ([.n .i64 3, .n .i64 4], .v (.a [.n .i64 3, .n .i64 4])),
  ([.n .i64 5, .n .i64 7], .v (.a [.n .i64 5, .n .i64 7])),
  ([.n .i64 0, .n .i64 64], .v (.a [.n .i64 0, .n .i64 64])),
  ([.n .i64 2, .n .i64 8], .v (.a [.n .i64 2, .n .i64 8]))]
noncomputable def t120 : Known := (120, k120) :: t103
theorem ok120 : Known.Ok Tryz.prog t120 := Known.add tabOk mixed (ok103) (N := 60) (by kernel_rfl)
noncomputable def k172 : List (List PV × Ret) := [([.n .i64 4294967296, .n .i64 4294967296], .v (.a [.n .i64 65536, .n .i64 65536])),
  ([.n .i64 0, .n .i64 0], .v (.a [.n .i64 0, .n .i64 0])),
  ([.n .i64 196608, .n .i64 262144], .v (.a [.n .i64 3, .n .i64 4])),
  ([.n .i64 327680, .n .i64 458752], .v (.a [.n .i64 5, .n .i64 7])),
  ([.n .i64 0, .n .i64 4194304], .v (.a [.n .i64 0, .n .i64 64])),
  ([.n .i64 131072, .n .i64 524288], .v (.a [.n .i64 2, .n .i64 8]))]
noncomputable def t172 : Known := (172, k172) :: t120
theorem ok172 : Known.Ok Tryz.prog t172 := Known.add tabOk mixed (ok120) (N := 60) (by kernel_rfl)
noncomputable def k162 : List (List PV × Ret) := [([.a [.n .i64 65536, .n .i64 65536], .a [.n .i64 65536, .n .i64 65536]], .v (.a [.n .i64 65536, .n .i64 65536])),
  ([.a [.n .i64 0, .n .i64 0], .a [.n .i64 0, .n .i64 0]], .v (.a [.n .i64 0, .n .i64 0])),
  ([.a [.n .i64 65536, .n .i64 65536], .a [.n .i64 0, .n .i64 0]], .v (.a [.n .i64 0, .n .i64 0])),
  ([.a [.n .i64 0, .n .i64 0], .a [.n .i64 65536, .n .i64 65536]], .v (.a [.n .i64 0, .n .i64 0])),
  ([.a [.n .i64 65536, .n .i64 65536], .a [.n .i64 3, .n .i64 4]], .v (.a [.n .i64 3, .n .i64 4])),
  ([.a [.n .i64 0, .n .i64 0], .a [.n .i64 3, .n .i64 4]], .v (.a [.n .i64 0, .n .i64 0])),
  ([.a [.n .i64 0, .n .i64 0], .a [.n .i64 5, .n .i64 7]], .v (.a [.n .i64 0, .n .i64 0])),
  ([.a [.n .i64 65536, .n .i64 65536], .a [.n .i64 5, .n .i64 7]], .v (.a [.n .i64 5, .n .i64 7])),
  ([.a [.n .i64 65536, .n .i64 65536], .a [.n .i64 0, .n .i64 64]], .v (.a [.n .i64 0, .n .i64 64])),
  ([.a [.n .i64 0, .n .i64 0], .a [.n .i64 0, .n .i64 64]], .v (.a [.n .i64 0, .n .i64 0])),
  ([.a [.n .i64 0, .n .i64 0], .a [.n .i64 2, .n .i64 8]], .v (.a [.n .i64 0, .n .i64 0])),
  ([.a [.n .i64 65536, .n .i64 65536], .a [.n .i64 2, .n .i64 8]], .v (.a [.n .i64 2, .n .i64 8]))]
noncomputable def t162 : Known := (162, k162) :: t172
theorem ok162 : Known.Ok Tryz.prog t162 := Known.add tabOk mixed (ok172) (N := 60) (by kernel_rfl)
noncomputable def k161 : List (List PV × Ret) := [([.a [.n .i64 0, .n .i64 0], .a [.n .i64 65536, .n .i64 65536]], .v (.a [.n .i64 65536, .n .i64 65536])),
  ([.a [.n .i64 65536, .n .i64 65536], .a [.n .i64 0, .n .i64 0]], .v (.a [.n .i64 65536, .n .i64 65536])),
  ([.a [.n .i64 0, .n .i64 0], .a [.n .i64 0, .n .i64 0]], .v (.a [.n .i64 0, .n .i64 0])),
  ([.a [.n .i64 0, .n .i64 0], .a [.n .i64 3, .n .i64 4]], .v (.a [.n .i64 3, .n .i64 4])),
  ([.a [.n .i64 3, .n .i64 4], .a [.n .i64 0, .n .i64 0]], .v (.a [.n .i64 3, .n .i64 4])),
  ([.a [.n .i64 0, .n .i64 0], .a [.n .i64 5, .n .i64 7]], .v (.a [.n .i64 5, .n .i64 7])),
  ([.a [.n .i64 5, .n .i64 7], .a [.n .i64 0, .n .i64 0]], .v (.a [.n .i64 5, .n .i64 7])),
  ([.a [.n .i64 0, .n .i64 0], .a [.n .i64 0, .n .i64 64]], .v (.a [.n .i64 0, .n .i64 64])),
  ([.a [.n .i64 0, .n .i64 64], .a [.n .i64 0, .n .i64 0]], .v (.a [.n .i64 0, .n .i64 64])),
  ([.a [.n .i64 0, .n .i64 0], .a [.n .i64 2, .n .i64 8]], .v (.a [.n .i64 2, .n .i64 8])),
  ([.a [.n .i64 2, .n .i64 8], .a [.n .i64 0, .n .i64 0]], .v (.a [.n .i64 2, .n .i64 8]))]
noncomputable def t161 : Known := (161, k161) :: t162
theorem ok161 : Known.Ok Tryz.prog t161 := Known.add tabOk mixed (ok162) (N := 60) (by kernel_rfl)
noncomputable def k160 : List (List PV × Ret) := [([.a [.n .i64 65536, .n .i64 65536, .n .i64 0, .n .i64 0, .n .i64 0, .n .i64 0, .n .i64 0, .n .i64 0, .n .i64 65536, .n .i64 65536, .n .i64 0, .n .i64 0, .n .i64 0, .n .i64 0, .n .i64 0, .n .i64 0, .n .i64 65536, .n .i64 65536], .a [.n .i64 65536, .n .i64 65536, .n .i64 0, .n .i64 0, .n .i64 0, .n .i64 0, .n .i64 0, .n .i64 0, .n .i64 65536, .n .i64 65536, .n .i64 0, .n .i64 0, .n .i64 0, .n .i64 0, .n .i64 0, .n .i64 0, .n .i64 65536, .n .i64 65536]], .v (.a [.n .i64 65536, .n .i64 65536, .n .i64 0, .n .i64 0, .n .i64 0, .n .i64 0, .n .i64 0, .n .i64 0, .n .i64 65536, .n .i64 65536, .n .i64 0, .n .i64 0, .n .i64 0, .n .i64 0, .n .i64 0, .n .i64 0, .n .i64 65536, .n .i64 65536]))]
noncomputable def t160 : Known := (160, k160) :: t161
theorem ok160 : Known.Ok Tryz.prog t160 := Known.add tabOk mixed (ok161) (N := 60) (by kernel_rfl)
noncomputable def k142 : List (List PV × Ret) := [([.a [.n .i64 65536, .n .i64 65536, .n .i64 0, .n .i64 0, .n .i64 0, .n .i64 0, .n .i64 0, .n .i64 0, .n .i64 65536, .n .i64 65536, .n .i64 0, .n .i64 0, .n .i64 0, .n .i64 0, .n .i64 0, .n .i64 0, .n .i64 65536, .n .i64 65536], .a [.n .i64 3, .n .i64 4, .n .i64 0, .n .i64 0, .n .i64 0, .n .i64 0]], .v (.a [.n .i64 3, .n .i64 4, .n .i64 0, .n .i64 0, .n .i64 0, .n .i64 0])),
  ([.a [.n .i64 65536, .n .i64 65536, .n .i64 0, .n .i64 0, .n .i64 0, .n .i64 0, .n .i64 0, .n .i64 0, .n .i64 65536, .n .i64 65536, .n .i64 0, .n .i64 0, .n .i64 0, .n .i64 0, .n .i64 0, .n .i64 0, .n .i64 65536, .n .i64 65536], .a [.n .i64 0, .n .i64 0, .n .i64 5, .n .i64 7, .n .i64 0, .n .i64 0]], .v (.a [.n .i64 0, .n .i64 0, .n .i64 5, .n .i64 7, .n .i64 0, .n .i64 0])),
  ([.a [.n .i64 65536, .n .i64 65536, .n .i64 0, .n .i64 0, .n .i64 0, .n .i64 0, .n .i64 0, .n .i64 0, .n .i64 65536, .n .i64 65536, .n .i64 0, .n .i64 0, .n .i64 0, .n .i64 0, .n .i64 0, .n .i64 0, .n .i64 65536, .n .i64 65536], .a [.n .i64 0, .n .i64 0, .n .i64 0, .n .i64 0, .n .i64 0, .n .i64 0]], .v (.a [.n .i64 0, .n .i64 0, .n .i64 0, .n .i64 0, .n .i64 0, .n .i64 0])),
  ([.a [.n .i64 65536, .n .i64 65536, .n .i64 0, .n .i64 0, .n .i64 0, .n .i64 0, .n .i64 0, .n .i64 0, .n .i64 65536, .n .i64 65536, .n .i64 0, .n .i64 0, .n .i64 0, .n .i64 0, .n .i64 0, .n .i64 0, .n .i64 65536, .n .i64 65536], .a [.n .i64 0, .n .i64 64, .n .i64 0, .n .i64 0, .n .i64 0, .n .i64 0]], .v (.a [.n .i64 0, .n .i64 64, .n .i64 0, .n .i64 0, .n .i64 0, .n .i64 0])),
  ([.a [.n .i64 65536, .n .i64 65536, .n .i64 0, .n .i64 0, .n .i64 0, .n .i64 0, .n .i64 0, .n .i64 0, .n .i64 65536, .n .i64 65536, .n .i64 0, .n .i64 0, .n .i64 0, .n .i64 0, .n .i64 0, .n .i64 0, .n .i64 65536, .n .i64 65536], .a [.n .i64 0, .n .i64 0, .n .i64 2, .n .i64 8, .n .i64 0, .n .i64 0]], .v (.a [.n .i64 0, .n .i64 0, .n .i64 2, .n .i64 8, .n .i64 0, .n .i64 0]))]
noncomputable def t142 : Known := (142, k142) :: t160
theorem ok142 : Known.Ok Tryz.prog t142 := Known.add tabOk mixed (ok160) (N := 60) (by kernel_rfl)
noncomputable def k169 : List (List PV × Ret) := [([.a [.n .i64 3, .n .i64 4, .n .i64 0, .n .i64 0, .n .i64 0, .n .i64 0], .c [.n .i64 65536, .n .i64 65536, .n .i64 0, .n .i64 0, .n .i64 0, .n .i64 0, .n .i64 0, .n .i64 0, .n .i64 65536, .n .i64 65536, .n .i64 0, .n .i64 0, .n .i64 0, .n .i64 0, .n .i64 0, .n .i64 0, .n .i64 65536, .n .i64 65536, .n .i64 0, .n .i64 0, .n .i64 0, .n .i64 0, .n .i64 0, .n .i64 0] 0], .v (.a [.n .i64 3, .n .i64 4, .n .i64 0, .n .i64 0, .n .i64 0, .n .i64 0])),
  ([.a [.n .i64 0, .n .i64 0, .n .i64 5, .n .i64 7, .n .i64 0, .n .i64 0], .c [.n .i64 65536, .n .i64 65536, .n .i64 0, .n .i64 0, .n .i64 0, .n .i64 0, .n .i64 0, .n .i64 0, .n .i64 65536, .n .i64 65536, .n .i64 0, .n .i64 0, .n .i64 0, .n .i64 0, .n .i64 0, .n .i64 0, .n .i64 65536, .n .i64 65536, .n .i64 0, .n .i64 0, .n .i64 0, .n .i64 0, .n .i64 0, .n .i64 0] 0], .v (.a [.n .i64 0, .n .i64 0, .n .i64 5, .n .i64 7, .n .i64 0, .n .i64 0])),
  ([.a [.n .i64 0, .n .i64 0, .n .i64 5, .n .i64 7, .n .i64 0, .n .i64 0], .c [.n .i64 65536, .n .i64 65536, .n .i64 0, .n .i64 0, .n .i64 0, .n .i64 0, .n .i64 0, .n .i64 0, .n .i64 65536, .n .i64 65536, .n .i64 0, .n .i64 0, .n .i64 0, .n .i64 0, .n .i64 0, .n .i64 0, .n .i64 65536, .n .i64 65536, .n .i64 3, .n .i64 4, .n .i64 0, .n .i64 0, .n .i64 0, .n .i64 0] 0], .v (.a [.n .i64 3, .n .i64 4, .n .i64 5, .n .i64 7, .n .i64 0, .n .i64 0])),
  ([.a [.n .i64 0, .n .i64 0, .n .i64 0, .n .i64 0, .n .i64 0, .n .i64 0], .c [.n .i64 65536, .n .i64 65536, .n .i64 0, .n .i64 0, .n .i64 0, .n .i64 0, .n .i64 0, .n .i64 0, .n .i64 65536, .n .i64 65536, .n .i64 0, .n .i64 0, .n .i64 0, .n .i64 0, .n .i64 0, .n .i64 0, .n .i64 65536, .n .i64 65536, .n .i64 3, .n .i64 4, .n .i64 5, .n .i64 7, .n .i64 0, .n .i64 0] 0], .v (.a [.n .i64 3, .n .i64 4, .n .i64 5, .n .i64 7, .n .i64 0, .n .i64 0])),
  ([.a [.n .i64 0, .n .i64 64, .n .i64 0, .n .i64 0, .n .i64 0, .n .i64 0], .c [.n .i64 65536, .n .i64 65536, .n .i64 0, .n .i64 0, .n .i64 0, .n .i64 0, .n .i64 0, .n .i64 0, .n .i64 65536, .n .i64 65536, .n .i64 0, .n .i64 0, .n .i64 0, .n .i64 0, .n .i64 0, .n .i64 0, .n .i64 65536, .n .i64 65536, .n .i64 0, .n .i64 0, .n .i64 0, .n .i64 0, .n .i64 0, .n .i64 0] 0], .v (.a [.n .i64 0, .n .i64 64, .n .i64 0, .n .i64 0, .n .i64 0, .n .i64 0])),
  ([.a [.n .i64 0, .n .i64 0, .n .i64 2, .n .i64 8, .n .i64 0, .n .i64 0], .c [.n .i64 65536, .n .i64 65536, .n .i64 0, .n .i64 0, .n .i64 0, .n .i64 0, .n .i64 0, .n .i64 0, .n .i64 65536, .n .i64 65536, .n .i64 0, .n .i64 0, .n .i64 0, .n .i64 0, .n .i64 0, .n .i64 0, .n .i64 65536, .n .i64 65536, .n .i64 0, .n .i64 0, .n .i64 0, .n .i64 0, .n .i64 0, .n .i64 0] 0], .v (.a [.n .i64 0, .n .i64 0, .n .i64 2, .n .i64 8, .n .i64 0, .n .i64 0])),
  ([.a [.n .i64 0, .n .i64 0, .n .i64 2, .n .i64 8, .n .i64 0, .n .i64 0], .c [.n .i64 65536, .n .i64 65536, .n .i64 0, .n .i64 0, .n .i64 0, .n .i64 0, .n .i64 0, .n .i64 0, .n .i64 65536, .n .i64 65536, .n .i64 0, .n .i64 0, .n .i64 0, .n .i64 0, .n .i64 0, .n .i64 0, .n .i64 65536, .n .i64 65536, .n .i64 0, .n .i64 64, .n .i64 0, .n .i64 0, .n .i64 0, .n .i64 0] 0], .v (.a [.n .i64 0, .n .i64 64, .n .i64 2, .n .i64 8, .n .i64 0, .n .i64 0])),
  ([.a [.n .i64 0, .n .i64 0, .n .i64 0, .n .i64 0, .n .i64 0, .n .i64 0], .c [.n .i64 65536, .n .i64 65536, .n .i64 0, .n .i64 0, .n .i64 0, .n .i64 0, .n .i64 0, .n .i64 0, .n .i64 65536, .n .i64 65536, .n .i64 0, .n .i64 0, .n .i64 0, .n .i64 0, .n .i64 0, .n .i64 0, .n .i64 65536, .n .i64 65536, .n .i64 0, .n .i64 64, .n .i64 2, .n .i64 8, .n .i64 0, .n .i64 0] 0], .v (.a [.n .i64 0, .n .i64 64, .n .i64 2, .n .i64 8, .n .i64 0, .n .i64 0]))]
noncomputable def t169 : Known := (169, k169) :: t142
theorem ok169 : Known.Ok Tryz.prog t169 := Known.add tabOk mixed (ok142) (N := 60) (by kernel_rfl)
noncomputable def k141 : List (List PV × Ret) := [([.a [.n .i64 65536, .n .i64 65536, .n .i64 0, .n .i64 0, .n .i64 0, .n .i64 0, .n .i64 0, .n .i64 0, .n .i64 65536, .n .i64 65536, .n .i64 0, .n .i64 0, .n .i64 0, .n .i64 0, .n .i64 0, .n .i64 0, .n .i64 65536, .n .i64 65536, .n .i64 0, .n .i64 0, .n .i64 0, .n .i64 0, .n .i64 0, .n .i64 0], .a [.n .i64 65536, .n .i64 65536, .n .i64 0, .n .i64 0, .n .i64 0, .n .i64 0, .n .i64 0, .n .i64 0, .n .i64 65536, .n .i64 65536, .n .i64 0, .n .i64 0, .n .i64 0, .n .i64 0, .n .i64 0, .n .i64 0, .n .i64 65536, .n .i64 65536, .n .i64 3, .n .i64 4, .n .i64 0, .n .i64 0, .n .i64 0, .n .i64 0]], .v (.a [.n .i64 65536, .n .i64 65536, .n .i64 0, .n .i64 0, .n .i64 0, .n .i64 0, .n .i64 0, .n .i64 0, .n .i64 65536, .n .i64 65536, .n .i64 0, .n .i64 0, .n .i64 0, .n .i64 0, .n .i64 0, .n .i64 0, .n .i64 65536, .n .i64 65536, .n .i64 3, .n .i64 4, .n .i64 0, .n .i64 0, .n .i64 0, .n .i64 0])),
  ([.a [.n .i64 65536, .n .i64 65536, .n .i64 0, .n .i64 0, .n .i64 0, .n .i64 0, .n .i64 0, .n .i64 0, .n .i64 65536, .n .i64 65536, .n .i64 0, .n .i64 0, .n .i64 0, .n .i64 0, .n .i64 0, .n .i64 0, .n .i64 65536, .n .i64 65536, .n .i64 0, .n .i64 0, .n .i64 0, .n .i64 0, .n .i64 0, .n .i64 0], .a [.n .i64 65536, .n .i64 65536, .n .i64 0, .n .i64 0, .n .i64 0, .n .i64 0, .n .i64 0, .n .i64 0, .n .i64 65536, .n .i64 65536, .n .i64 0, .n .i64 0, .n .i64 0, .n .i64 0, .n .i64 0, .n .i64 0, .n .i64 65536, .n .i64 65536, .n .i64 0, .n .i64 0, .n .i64 5, .n .i64 7, .n .i64 0, .n .i64 0]], .v (.a [.n .i64 65536, .n .i64 65536, .n .i64 0, .n .i64 0, .n .i64 0, .n .i64 0, .n .i64 0, .n .i64 0, .n .i64 65536, .n .i64 65536, .n .i64 0, .n .i64 0, .n .i64 0, .n .i64 0, .n .i64 0, .n .i64 0, .n .i64 65536, .n .i64 65536, .n .i64 0, .n .i64 0, .n .i64 5, .n .i64 7, .n .i64 0, .n .i64 0])),
  ([.a [.n .i64 65536, .n .i64 65536, .n .i64 0, .n .i64 0, .n .i64 0, .n .i64 0, .n .i64 0, .n .i64 0, .n .i64 65536, .n .i64 65536, .n .i64 0, .n .i64 0, .n .i64 0, .n .i64 0, .n .i64 0, .n .i64 0, .n .i64 65536, .n .i64 65536, .n .i64 3, .n .i64 4, .n .i64 0, .n .i64 0, .n .i64 0, .n .i64 0], .a [.n .i64 65536, .n .i64 65536, .n .i64 0, .n .i64 0, .n .i64 0, .n .i64 0, .n .i64 0, .n .i64 0, .n .i64 65536, .n .i64 65536, .n .i64 0, .n .i64 0, .n .i64 0, .n .i64 0, .n .i64 0, .n .i64 0, .n .i64 65536, .n .i64 65536, .n .i64 0, .n .i64 0, .n .i64 5, .n .i64 7, .n .i64 0, .n .i64 0]], .v (.a [.n .i64 65536, .n .i64 65536, .n .i64 0, .n .i64 0, .n .i64 0, .n .i64 0, .n .i64 0, .n .i64 0, .n .i64 65536, .n .i64 65536, .n .i64 0, .n .i64 0, .n .i64 0, .n .i64 0, .n .i64 0, .n .i64 0, .n .i64 65536, .n .i64 65536, .n .i64 3, .n .i64 4, .n .i64 5, .n .i64 7, .n .i64 0, .n .i64 0])),
  ([.a [.n .i64 65536, .n .i64 65536, .n .i64 0, .n .i64 0, .n .i64 0, .n .i64 0, .n .i64 0, .n .i64 0, .n .i64 65536, .n .i64 65536, .n .i64 0, .n .i64 0, .n .i64 0, .n .i64 0, .n .i64 0, .n .i64 0, .n .i64 65536, .n .i64 65536, .n .i64 0, .n .i64 0, .n .i64 0, .n .i64 0, .n .i64 0, .n .i64 0], .a [.n .i64 65536, .n .i64 65536, .n .i64 0, .n .i64 0, .n .i64 0, .n .i64 0, .n .i64 0, .n .i64 0, .n .i64 65536, .n .i64 65536, .n .i64 0, .n .i64 0, .n .i64 0, .n .i64 0, .n .i64 0, .n .i64 0, .n .i64 65536, .n .i64 65536, .n .i64 0, .n .i64 64, .n .i64 0, .n .i64 0, .n .i64 0, .n .i64 0]], .v (.a [.n .i64 65536, .n .i64 65536, .n .i64 0, .n .i64 0, .n .i64 0, .n .i64 0, .n .i64 0, .n .i64 0, .n .i64 65536, .n .i64 65536, .n .i64 0, .n .i64 0, .n .i64 0, .n .i64 0, .n .i64 0, .n .i64 0, .n .i64 65536, .n .i64 65536, .n .i64 0, .n .i64 64, .n .i64 0, .n .i64 0, .n .i64 0, .n .i64 0])),
  ([.a [.n .i64 65536, .n .i64 65536, .n .i64 0, .n .i64 0, .n .i64 0, .n .i64 0, .n .i64 0, .n .i64 0, .n .i64 65536, .n .i64 65536, .n .i64 0, .n .i64 0, .n .i64 0, .n .i64 0, .n .i64 0, .n .i64 0, .n .i64 65536, .n .i64 65536, .n .i64 0, .n .i64 0, .n .i64 0, .n .i64 0, .n .i64 0, .n .i64 0], .a [.n .i64 65536, .n .i64 65536, .n .i64 0, .n .i64 0, .n .i64 0, .n .i64 0, .n .i64 0, .n .i64 0, .n .i64 65536, .n .i64 65536, .n .i64 0, .n .i64 0, .n .i64 0, .n .i64 0, .n .i64 0, .n .i64 0, .n .i64 65536, .n .i64 65536, .n .i64 0, .n .i64 0, .n .i64 2, .n .i64 8, .n .i64 0, .n .i64 0]], .v (.a [.n .i64 65536, .n .i64 65536, .n .i64 0, .n .i64 0, .n .i64 0, .n .i64 0, .n .i64 0, .n .i64 0, .n .i64 65536, .n .i64 65536, .n .i64 0, .n .i64 0, .n .i64 0, .n .i64 0, .n .i64 0, .n .i64 0, .n .i64 65536, .n .i64 65536, .n .i64 0, .n .i64 0, .n .i64 2, .n .i64 8, .n .i64 0, .n .i64 0])),
  ([.a [.n .i64 65536, .n .i64 65536, .n .i64 0, .n .i64 0, .n .i64 0, .n .i64 0, .n .i64 0, .n .i64 0, .n .i64 65536, .n .i64 65536, .n .i64 0, .n .i64 0, .n .i64 0, .n .i64 0, .n .i64 0, .n .i64 0, .n .i64 65536, .n .i64 65536, .n .i64 0, .n .i64 64, .n .i64 0, .n .i64 0, .n .i64 0, .n .i64 0], .a [.n .i64 65536, .n .i64 65536, .n .i64 0, .n .i64 0, .n .i64 0, .n .i64 0, .n .i64 0, .n .i64 0, .n .i64 65536, .n .i64 65536, .n .i64 0, .n .i64 0, .n .i64 0, .n .i64 0, .n .i64 0, .n .i64 0, .n .i64 65536, .n .i64 65536, .n .i64 0, .n .i64 0, .n .i64 2, .n .i64 8, .n .i64 0, .n .i64 0]], .v (.a [.n .i64 65536, .n .i64 65536, .n .i64 0, .n .i64 0, .n .i64 0, .n .i64 0, .n .i64 0, .n .i64 0, .n .i64 65536, .n .i64 65536, .n .i64 0, .n .i64 0, .n .i64 0, .n .i64 0, .n .i64 0, .n .i64 0, .n .i64 65536, .n .i64 65536, .n .i64 0, .n .i64 64, .n .i64 2, .n .i64 8, .n .i64 0, .n .i64 0]))]
noncomputable def t141 : Known := (141, k141) :: t169
theorem ok141 : Known.Ok Tryz.prog t141 := Known.add tabOk mixed (ok169) (N := 60) (by kernel_rfl)
noncomputable def k140 : List (List PV × Ret) := [([.a [.s (ByteArray.mk #[97]), .n .i64 4, .n .i64 (-1), .n .i64 0, .n .i64 0, .n .i64 0, .n .i64 0, .n .i64 64, .n .i64 1, .n .i64 65536, .n .i64 65536, .n .i64 65536], .a [.n .i64 3, .n .i64 4]], .v (.a [.n .i64 65536, .n .i64 65536, .n .i64 0, .n .i64 0, .n .i64 0, .n .i64 0, .n .i64 0, .n .i64 0, .n .i64 65536, .n .i64 65536, .n .i64 0, .n .i64 0, .n .i64 0, .n .i64 0, .n .i64 0, .n .i64 0, .n .i64 65536, .n .i64 65536, .n .i64 3, .n .i64 4, .n .i64 0, .n .i64 0, .n .i64 0, .n .i64 0])),
  ([.a [.s (ByteArray.mk #[98]), .n .i64 5, .n .i64 0, .n .i64 0, .n .i64 0, .n .i64 0, .n .i64 0, .n .i64 64, .n .i64 1, .n .i64 65536, .n .i64 65536, .n .i64 65536], .a [.n .i64 5, .n .i64 7]], .v (.a [.n .i64 65536, .n .i64 65536, .n .i64 0, .n .i64 0, .n .i64 0, .n .i64 0, .n .i64 0, .n .i64 0, .n .i64 65536, .n .i64 65536, .n .i64 0, .n .i64 0, .n .i64 0, .n .i64 0, .n .i64 0, .n .i64 0, .n .i64 65536, .n .i64 65536, .n .i64 0, .n .i64 0, .n .i64 5, .n .i64 7, .n .i64 0, .n .i64 0])),
  ([.a [.s (ByteArray.mk #[97]), .n .i64 4, .n .i64 (-1), .n .i64 0, .n .i64 0, .n .i64 0, .n .i64 0, .n .i64 64, .n .i64 1, .n .i64 65536, .n .i64 65536, .n .i64 65536], .a [.n .i64 0, .n .i64 64]], .v (.a [.n .i64 65536, .n .i64 65536, .n .i64 0, .n .i64 0, .n .i64 0, .n .i64 0, .n .i64 0, .n .i64 0, .n .i64 65536, .n .i64 65536, .n .i64 0, .n .i64 0, .n .i64 0, .n .i64 0, .n .i64 0, .n .i64 0, .n .i64 65536, .n .i64 65536, .n .i64 0, .n .i64 64, .n .i64 0, .n .i64 0, .n .i64 0, .n .i64 0])),
  ([.a [.s (ByteArray.mk #[98]), .n .i64 5, .n .i64 0, .n .i64 0, .n .i64 0, .n .i64 0, .n .i64 0, .n .i64 64, .n .i64 1, .n .i64 65536, .n .i64 65536, .n .i64 65536], .a [.n .i64 2, .n .i64 8]], .v (.a [.n .i64 65536, .n .i64 65536, .n .i64 0, .n .i64 0, .n .i64 0, .n .i64 0, .n .i64 0, .n .i64 0, .n .i64 65536, .n .i64 65536, .n .i64 0, .n .i64 0, .n .i64 0, .n .i64 0, .n .i64 0, .n .i64 0, .n .i64 65536, .n .i64 65536, .n .i64 0, .n .i64 0, .n .i64 2, .n .i64 8, .n .i64 0, .n .i64 0]))]
noncomputable def t140 : Known := (140, k140) :: t141
theorem ok140 : Known.Ok Tryz.prog t140 := Known.add tabOk mixed (ok141) (N := 60) (by kernel_rfl)
noncomputable def k105 : List (List PV × Ret) := [([.a [.l [[.s (ByteArray.mk #[97]), .n .i64 4, .n .i64 (-1), .n .i64 0, .n .i64 0, .n .i64 0, .n .i64 0, .n .i64 64, .n .i64 1, .n .i64 65536, .n .i64 65536, .n .i64 65536], [.s (ByteArray.mk #[98]), .n .i64 5, .n .i64 0, .n .i64 0, .n .i64 0, .n .i64 0, .n .i64 0, .n .i64 64, .n .i64 1, .n .i64 65536, .n .i64 65536, .n .i64 65536]], .l []], .l [[.n .i64 3, .n .i64 4], [.n .i64 5, .n .i64 7]]], .ow 134 24 [[.n .i64 65536, .n .i64 65536, .n .i64 0, .n .i64 0, .n .i64 0, .n .i64 0, .n .i64 0, .n .i64 0, .n .i64 65536, .n .i64 65536, .n .i64 0, .n .i64 0, .n .i64 0, .n .i64 0, .n .i64 0, .n .i64 0, .n .i64 65536, .n .i64 65536, .n .i64 3, .n .i64 4, .n .i64 0, .n .i64 0, .n .i64 0, .n .i64 0], [.n .i64 65536, .n .i64 65536, .n .i64 0, .n .i64 0, .n .i64 0, .n .i64 0, .n .i64 0, .n .i64 0, .n .i64 65536, .n .i64 65536, .n .i64 0, .n .i64 0, .n .i64 0, .n .i64 0, .n .i64 0, .n .i64 0, .n .i64 65536, .n .i64 65536, .n .i64 3, .n .i64 4, .n .i64 5, .n .i64 7, .n .i64 0, .n .i64 0]]),
  ([.a [.l [[.s (ByteArray.mk #[97]), .n .i64 4, .n .i64 (-1), .n .i64 0, .n .i64 0, .n .i64 0, .n .i64 0, .n .i64 64, .n .i64 1, .n .i64 65536, .n .i64 65536, .n .i64 65536], [.s (ByteArray.mk #[98]), .n .i64 5, .n .i64 0, .n .i64 0, .n .i64 0, .n .i64 0, .n .i64 0, .n .i64 64, .n .i64 1, .n .i64 65536, .n .i64 65536, .n .i64 65536]], .l []], .l [[.n .i64 0, .n .i64 64], [.n .i64 2, .n .i64 8]]], .ow 134 24 [[.n .i64 65536, .n .i64 65536, .n .i64 0, .n .i64 0, .n .i64 0, .n .i64 0, .n .i64 0, .n .i64 0, .n .i64 65536, .n .i64 65536, .n .i64 0, .n .i64 0, .n .i64 0, .n .i64 0, .n .i64 0, .n .i64 0, .n .i64 65536, .n .i64 65536, .n .i64 0, .n .i64 64, .n .i64 0, .n .i64 0, .n .i64 0, .n .i64 0], [.n .i64 65536, .n .i64 65536, .n .i64 0, .n .i64 0, .n .i64 0, .n .i64 0, .n .i64 0, .n .i64 0, .n .i64 65536, .n .i64 65536, .n .i64 0, .n .i64 0, .n .i64 0, .n .i64 0, .n .i64 0, .n .i64 0, .n .i64 65536, .n .i64 65536, .n .i64 0, .n .i64 64, .n .i64 2, .n .i64 8, .n .i64 0, .n .i64 0]])]
noncomputable def t105 : Known := (105, k105) :: t140
theorem ok105 : Known.Ok Tryz.prog t105 := Known.add tabOk mixed (ok140) (N := 60) (by kernel_rfl)
noncomputable def k73 : List (List PV × Ret) := [([.a [.l [[.s (ByteArray.mk #[97]), .n .i64 4, .n .i64 (-1), .n .i64 0, .n .i64 0, .n .i64 0, .n .i64 0, .n .i64 64, .n .i64 1, .n .i64 65536, .n .i64 65536, .n .i64 65536], [.s (ByteArray.mk #[98]), .n .i64 5, .n .i64 0, .n .i64 0, .n .i64 0, .n .i64 0, .n .i64 0, .n .i64 64, .n .i64 1, .n .i64 65536, .n .i64 65536, .n .i64 65536]], .l []], .l [[.n .i64 3, .n .i64 4], [.n .i64 5, .n .i64 7]]], .v (.l [[.n .i64 65536, .n .i64 65536, .n .i64 0, .n .i64 0, .n .i64 0, .n .i64 0, .n .i64 0, .n .i64 0, .n .i64 65536, .n .i64 65536, .n .i64 0, .n .i64 0, .n .i64 0, .n .i64 0, .n .i64 0, .n .i64 0, .n .i64 65536, .n .i64 65536, .n .i64 3, .n .i64 4, .n .i64 0, .n .i64 0, .n .i64 0, .n .i64 0], [.n .i64 65536, .n .i64 65536, .n .i64 0, .n .i64 0, .n .i64 0, .n .i64 0, .n .i64 0, .n .i64 0, .n .i64 65536, .n .i64 65536, .n .i64 0, .n .i64 0, .n .i64 0, .n .i64 0, .n .i64 0, .n .i64 0, .n .i64 65536, .n .i64 65536, .n .i64 3, .n .i64 4, .n .i64 5, .n .i64 7, .n .i64 0, .n .i64 0]])),
  ([.a [.l [[.s (ByteArray.mk #[97]), .n .i64 4, .n .i64 (-1), .n .i64 0, .n .i64 0, .n .i64 0, .n .i64 0, .n .i64 64, .n .i64 1, .n .i64 65536, .n .i64 65536, .n .i64 65536], [.s (ByteArray.mk #[98]), .n .i64 5, .n .i64 0, .n .i64 0, .n .i64 0, .n .i64 0, .n .i64 0, .n .i64 64, .n .i64 1, .n .i64 65536, .n .i64 65536, .n .i64 65536]], .l []], .l [[.n .i64 0, .n .i64 64], [.n .i64 2, .n .i64 8]]], .v (.l [[.n .i64 65536, .n .i64 65536, .n .i64 0, .n .i64 0, .n .i64 0, .n .i64 0, .n .i64 0, .n .i64 0, .n .i64 65536, .n .i64 65536, .n .i64 0, .n .i64 0, .n .i64 0, .n .i64 0, .n .i64 0, .n .i64 0, .n .i64 65536, .n .i64 65536, .n .i64 0, .n .i64 64, .n .i64 0, .n .i64 0, .n .i64 0, .n .i64 0], [.n .i64 65536, .n .i64 65536, .n .i64 0, .n .i64 0, .n .i64 0, .n .i64 0, .n .i64 0, .n .i64 0, .n .i64 65536, .n .i64 65536, .n .i64 0, .n .i64 0, .n .i64 0, .n .i64 0, .n .i64 0, .n .i64 0, .n .i64 65536, .n .i64 65536, .n .i64 0, .n .i64 64, .n .i64 2, .n .i64 8, .n .i64 0, .n .i64 0]]))]
noncomputable def t73 : Known := (73, k73) :: t105
theorem ok73 : Known.Ok Tryz.prog t73 := Known.add tabOk mixed (ok105) (N := 60) (by kernel_rfl)
noncomputable def k42 : List (List PV × Ret) := [([.a [.l [[.s (ByteArray.mk #[97]), .n .i64 4, .n .i64 (-1), .n .i64 0, .n .i64 0, .n .i64 0, .n .i64 0, .n .i64 64, .n .i64 1, .n .i64 65536, .n .i64 65536, .n .i64 65536], [.s (ByteArray.mk #[98]), .n .i64 5, .n .i64 0, .n .i64 0, .n .i64 0, .n .i64 0, .n .i64 0, .n .i64 64, .n .i64 1, .n .i64 65536, .n .i64 65536, .n .i64 65536]], .l []], .l [[.n .i64 0, .n .i64 1, .n .i64 0, .n .i64 0, .n .i64 0, .n .i64 0, .n .i64 1, .n .i64 0, .n .i64 0, .n .i64 9]], .l [[.n .i64 3, .n .i64 4], [.n .i64 5, .n .i64 7]]], .ow 37 2 [[.n .i64 5, .n .i64 7]]),
  ([.a [.l [[.s (ByteArray.mk #[97]), .n .i64 4, .n .i64 (-1), .n .i64 0, .n .i64 0, .n .i64 0, .n .i64 0, .n .i64 64, .n .i64 1, .n .i64 65536, .n .i64 65536, .n .i64 65536], [.s (ByteArray.mk #[98]), .n .i64 5, .n .i64 0, .n .i64 0, .n .i64 0, .n .i64 0, .n .i64 0, .n .i64 64, .n .i64 1, .n .i64 65536, .n .i64 65536, .n .i64 65536]], .l []], .l [[.n .i64 0, .n .i64 1, .n .i64 0, .n .i64 0, .n .i64 0, .n .i64 0, .n .i64 1, .n .i64 0, .n .i64 0, .n .i64 9]], .l [[.n .i64 0, .n .i64 64], [.n .i64 2, .n .i64 8]]], .ow 37 2 [[.n .i64 2, .n .i64 8]])]
noncomputable def t42 : Known := (42, k42) :: t73
theorem ok42 : Known.Ok Tryz.prog t42 := Known.add tabOk mixed (ok73) (N := 60) (by kernel_rfl)
noncomputable def k13 : List (List PV × Ret) := [([.a [.l [[.s (ByteArray.mk #[97]), .n .i64 4, .n .i64 (-1), .n .i64 0, .n .i64 0, .n .i64 0, .n .i64 0, .n .i64 64, .n .i64 1, .n .i64 65536, .n .i64 65536, .n .i64 65536], [.s (ByteArray.mk #[98]), .n .i64 5, .n .i64 0, .n .i64 0, .n .i64 0, .n .i64 0, .n .i64 0, .n .i64 64, .n .i64 1, .n .i64 65536, .n .i64 65536, .n .i64 65536]], .l []], .a [.n .i64 0, .n .i64 1, .n .i64 0, .n .i64 0, .n .i64 0, .n .i64 0, .n .i64 1, .n .i64 0, .n .i64 0, .n .i64 9], .l [[.n .i64 3, .n .i64 4], [.n .i64 5, .n .i64 7]]], .v (.t [.a [.n .i64 5, .n .i64 7], .b true]))]
noncomputable def t13 : Known := (13, k13) :: t42
theorem ok13 : Known.Ok Tryz.prog t13 := Known.add tabOk mixed (ok42) (N := 60) (by kernel_rfl)
noncomputable def k30 : List (List PV × Ret) := [([.a [.l [[.s (ByteArray.mk #[97]), .n .i64 4, .n .i64 (-1), .n .i64 0, .n .i64 0, .n .i64 0, .n .i64 0, .n .i64 64, .n .i64 1, .n .i64 65536, .n .i64 65536, .n .i64 65536], [.s (ByteArray.mk #[98]), .n .i64 5, .n .i64 0, .n .i64 0, .n .i64 0, .n .i64 0, .n .i64 0, .n .i64 64, .n .i64 1, .n .i64 65536, .n .i64 65536, .n .i64 65536]], .l []], .l [[.n .i64 0, .n .i64 1, .n .i64 0, .n .i64 0, .n .i64 0, .n .i64 0, .n .i64 1, .n .i64 0, .n .i64 0, .n .i64 9]], .l [[.n .i64 0], [.n .i64 2]], .l [[.n .i64 64], [.n .i64 8]], .n .i64 4], .v (.a [.n .i64 1, .l [[.n .i64 0, .n .i64 0, .l []]], .n .i64 0, .n .i64 0, .l [], .n .i64 0, .l [], .l []]))]
noncomputable def t30 : Known := (30, k30) :: t13
theorem ok30 : Known.Ok Tryz.prog t30 := Known.add tabOk mixed (ok13) (N := 60) (by kernel_rfl)
theorem call : SndA1 Tryz.prog 14 [] (.v (.b true)) := run_sound (N := 60) tabOk mixed (Known.ok (ok30)) (by kernel_rfl : run T (Known.orc t30) 60 14 [] = some (.v (.b true)))
end Go.Proofs.YtnlnbnjnapofmaaGreat.Ax
namespace Go.Rx
open Go.RowKit Go.Sx Go.ChangeShapes Go.WideShapes
section
variable {P : Program} {W : World} {H : Type} {enc : TypeId × Value → H}
def ListArg (W : World) (v : Value) (L : List Int) : Prop := RP (fun k => k < W.heap.size) W (intsP L) v ∧ L.length ≤ 9223372036854775807 ∧ ∀ x ∈ L, In64 x
theorem open_rp {t e : TypeId} {v : Value} {d : DataW H} {p : List MemPlace} (ht : P.underlying t = some (.slice e)) (he : P.underlying e = some (.int .i64)) (hc : P.cellsOf e = 1)
    {r : Reach} {base : Nat} (hv : Value.okWide P W r base t v) (h : DataW.Trod enc P W 0 (fun _ => true) true t v d p) : ∃ L : List Int, ListArg W v L := by
  obtain ⟨a, l, c, rfl⟩ := slice_of ht hv
  obtain ⟨fuel, h⟩ := h
  have h' : DataW.trod enc P W 0 (fun _ => true) true fuel t [.slice a l c] = some (d, p) := h
  rcases open_ints ht he hc h' with ⟨h1, _⟩ | ⟨a', len, cap, zs, h1, _, hlc, hcap, hz, _, hcell, hwf⟩
  · simp at h1
    obtain ⟨rfl, rfl, rfl⟩ := h1
    exact ⟨[], .l0 none 0, by simp, fun x hx => by cases hx⟩
  · simp at h1
    obtain ⟨rfl, rfl, rfl⟩ := h1
    simp only [if_true] at hz
    have hlen : (zs.take l).length = l := by simp; omega
    have hI : IntsAt W W.heap.size (.slice (some a') l c) (zs.take l) := ⟨by have : maxLen = 9223372036854775807 := rfl; omega, some a', c, by rw [hlen], fun j hj => by
      rw [hlen] at hj
      have h0 := hcell 0 (by omega)
      have hj' := hcell j (by omega)
      have hsp : a'.spot = none := by
        have e : a'.add 0 = a' := by simp [Addr.add]
        rw [e] at h0
        unfold World.cell? at h0
        cases hb : W.heap[a'.block]? with
        | none => simp [hb] at h0
        | some o => cases o <;> simp [hb] at h0; exact h0.1
      obtain ⟨bb, off, sp⟩ := a'
      simp only at hsp
      subst hsp
      rw [add_addr] at hj'
      refine ⟨bb, off, rfl, ?_, ?_⟩
      · unfold World.cell? at hj'
        cases hb : W.heap[bb]? with
        | none => simp [hb] at hj'
        | some o => exact kV hb
      · rw [hj']
        simp [List.getD_eq_getElem?_getD, List.getElem?_take, hj]⟩
    refine ⟨zs.take l, ?_, hI.1, fun x hx => ?_⟩
    · have := rp_of_ints (F := fun k => k < W.heap.size) (w := W) (L := zs.take l) (a := some a') (c := c) (by rw [hlen]; exact hI) (by rw [hlen]; exact hlc) fun k hk => hk
      rw [hlen] at this
      exact this
    · have := hwf x (List.mem_of_mem_take hx)
      simpa [Lit.wf, IntKind.has, IntKind.min, IntKind.max, IntKind.signed, IntKind.bits, In64] using this
end
end Go.Rx
namespace Go.Proofs.YtnlnbnjnapofmaaGreat
open Go.Rx Go.Sx Go.RowKit
theorem wManifoldMonotone (v0 : Value) (L0 : List Int) (v1 : Value) (L1 : List Int) (v2 : Value) (L2 : List Int) (v3 : Value) (L3 : List Int) (a4 : Int) (W : World) (h0 : ListArg W v0 L0) (h1 : ListArg W v1 L1) (h2 : ListArg W v2 L2) (h3 : ListArg W v3 L3) : Calls Tryz.prog 4 #[v0, v1, v2, v3, .int .i64 a4] W (Rets (.bool true) W) :=
  rets_of_sndR (My.snd_mono h0.2.1 h1.2.1 h2.2.1 h3.2.1 Ax.call) rfl (al_cons h0.1 (al_cons h1.1 (al_cons h2.1 (al_cons h3.1 (al_cons (.n _ _) al_nil)))))
end Go.Proofs.YtnlnbnjnapofmaaGreat

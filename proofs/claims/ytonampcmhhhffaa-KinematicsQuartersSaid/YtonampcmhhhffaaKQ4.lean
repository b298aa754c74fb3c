/- Part 4 of the texts behind the last one: rules and contracts. No condition. -/
import Derived.Test.YtonampcmhhhffaaKQ3
namespace Go.Sx
def Ex (a : Iv) : Prop := a.lo = a.hi
def ExQ (a : Iv) : Prop := a.lo = a.hi ∧ a.lo % 65536 = 0
theorem clamp_q {x : Int} (h : x % 65536 = 0) : clampI x % 65536 = 0 := by unfold clampI; omega
theorem ex_add {a b : Iv} (ha : Ex a) (hb : Ex b) : Ex (Iv.add a b) := by
  unfold Ex at *
  unfold Iv.add
  cases a.valid && b.valid
  · rfl
  · simp only [cond_true]; rw [ha, hb]
theorem exq_add {a b : Iv} (ha : ExQ a) (hb : ExQ b) : ExQ (Iv.add a b) := by
  refine ⟨ex_add ha.1 hb.1, ?_⟩
  unfold Iv.add
  cases a.valid && b.valid
  · rfl
  · simp only [cond_true]
    have h1 := ha.2
    have h2 := hb.2
    exact clamp_q (by omega)
theorem mul_vals {a b : Iv} {k : Int} (ha : Ex a) (hb : Ex b) (hk : a.lo = 65536 * k) : Iv.mul a b = ⟨clampI (k * b.lo), clampI (k * b.lo)⟩ ∨ Iv.mul a b = ⟨0, 0⟩ := by
  unfold Ex at *
  unfold Iv.mul
  cases a.valid && b.valid
  · exact .inr rfl
  · left
    simp only [cond_true]
    have e : a.lo * b.lo = 65536 * (k * b.lo) := by rw [hk, Int.mul_assoc]
    rw [← ha, ← hb, e]
    simp only [min4, max4, Int.min_self, Int.max_self, ceilI]
    rw [Int.mul_ediv_cancel_left _ (by decide), ← Int.mul_neg, Int.mul_ediv_cancel_left _ (by decide), Int.neg_neg]
theorem q_of {a : Iv} (h : ExQ a) : ∃ k, a.lo = 65536 * k := ⟨a.lo / 65536, by have := h.2; omega⟩
theorem ex_mul {a b : Iv} (ha : ExQ a) (hb : Ex b) : Ex (Iv.mul a b) := by
  obtain ⟨k, hk⟩ := q_of ha
  rcases mul_vals ha.1 hb hk with h | h <;> rw [h] <;> rfl
theorem exq_mul {a b : Iv} (ha : ExQ a) (hb : ExQ b) : ExQ (Iv.mul a b) := by
  obtain ⟨k, hk⟩ := q_of ha
  obtain ⟨m, hm⟩ := q_of hb
  rcases mul_vals ha.1 hb.1 hk with h | h
  · rw [h]
    refine ⟨rfl, clamp_q ?_⟩
    rw [hm, Int.mul_left_comm]
    exact Int.mul_emod_right _ _
  · rw [h]; exact ⟨rfl, rfl⟩
theorem exq_neg {a : Iv} (ha : ExQ a) : ExQ (Iv.neg a) := by
  unfold Iv.neg
  cases a.valid
  · exact ⟨rfl, rfl⟩
  · have h1 := ha.1
    have h2 := ha.2
    simp only [cond_true]
    unfold ExQ
    dsimp only
    omega
theorem exq_lim {a : Iv} (ha : ExQ a) : ExQ (limV a) := by
  have h1 := ha.1
  have h2 := ha.2
  unfold limV ExQ limI
  dsimp only
  omega
def ExV (v : V3) : Prop := Ex v.x ∧ Ex v.y ∧ Ex v.z
def ExVQ (v : V3) : Prop := ExQ v.x ∧ ExQ v.y ∧ ExQ v.z
def ExM (m : M3) : Prop := ExVQ m.x ∧ ExVQ m.y ∧ ExVQ m.z
def ExPo (p : Po) : Prop := ExM p.r ∧ ExV p.t
theorem ex_dot {a b : V3} (ha : ExVQ a) (hb : ExV b) : Ex (V3.dot a b) := ex_add (ex_add (ex_mul ha.1 hb.1) (ex_mul ha.2.1 hb.2.1)) (ex_mul ha.2.2 hb.2.2)
theorem exq_dot {a b : V3} (ha : ExVQ a) (hb : ExVQ b) : ExQ (V3.dot a b) := exq_add (exq_add (exq_mul ha.1 hb.1) (exq_mul ha.2.1 hb.2.1)) (exq_mul ha.2.2 hb.2.2)
theorem ex_tr {m : M3} (h : ExM m) : ExM (M3.tr m) := ⟨⟨h.1.1, h.2.1.1, h.2.2.1⟩, ⟨h.1.2.1, h.2.1.2.1, h.2.2.2.1⟩, ⟨h.1.2.2, h.2.1.2.2, h.2.2.2.2⟩⟩
theorem ex_row {a : V3} {b : M3} (ha : ExVQ a) (hb : ExM b) : ExVQ (M3.row a b) := ⟨exq_lim (exq_dot ha (ex_tr hb).1), exq_lim (exq_dot ha (ex_tr hb).2.1), exq_lim (exq_dot ha (ex_tr hb).2.2)⟩
theorem ex_mmul {a b : M3} (ha : ExM a) (hb : ExM b) : ExM (M3.mul a b) := ⟨ex_row ha.1 hb, ex_row ha.2.1 hb, ex_row ha.2.2 hb⟩
theorem ex_app {m : M3} {v : V3} (hm : ExM m) (hv : ExV v) : ExV (M3.apply m v) := ⟨ex_dot hm.1 hv, ex_dot hm.2.1 hv, ex_dot hm.2.2 hv⟩
theorem ex_vadd {a b : V3} (ha : ExV a) (hb : ExV b) : ExV (V3.add a b) := ⟨ex_add ha.1 hb.1, ex_add ha.2.1 hb.2.1, ex_add ha.2.2 hb.2.2⟩
theorem ex_pmul {p q : Po} (hp : ExPo p) (hq : ExPo q) : ExPo (Po.mul p q) := ⟨ex_mmul hp.1 hq.1, ex_vadd hp.2 (ex_app hp.1 hq.2)⟩
theorem exq0 : ExQ iv0 := ⟨rfl, rfl⟩
theorem exq1 : ExQ iv1 := ⟨rfl, rfl⟩
theorem ex_unit : ExM M3.unit := ⟨⟨exq1, exq0, exq0⟩, ⟨exq0, exq1, exq0⟩, ⟨exq0, exq0, exq1⟩⟩
theorem ex_mzero : ExM M3.zero := ⟨⟨exq0, exq0, exq0⟩, ⟨exq0, exq0, exq0⟩, ⟨exq0, exq0, exq0⟩⟩
theorem ex_vzero : ExV V3.zero := ⟨rfl, rfl, rfl⟩
def exqB (a : Iv) : Bool := decide (a.lo = a.hi) && decide (a.lo % 65536 = 0)
theorem exq_of {a : Iv} (h : exqB a = true) : ExQ a := by
  unfold exqB at h
  simp only [Bool.and_eq_true, decide_eq_true_eq] at h
  exact h
def scB (x : Int) : Bool := exqB (sinOverI ⟨x, x⟩) && exqB (cosOverI ⟨x, x⟩)
theorem sc0 : scB (-81920) = true := by kernel_rfl
theorem sc1 : scB (-65536) = true := by kernel_rfl
theorem sc2 : scB (-49152) = true := by kernel_rfl
theorem sc3 : scB (-32768) = true := by kernel_rfl
theorem sc4 : scB (-16384) = true := by kernel_rfl
theorem sc5 : scB 0 = true := by kernel_rfl
theorem sc6 : scB 16384 = true := by kernel_rfl
theorem sc7 : scB 32768 = true := by kernel_rfl
theorem sc8 : scB 49152 = true := by kernel_rfl
theorem sc9 : scB 65536 = true := by kernel_rfl
theorem sc10 : scB 81920 = true := by kernel_rfl
theorem sc_all {q : Int} (h1 : -5 ≤ q) (h2 : q ≤ 5) : scB (16384 * q) = true := by
  have : q = -5 ∨ q = -4 ∨ q = -3 ∨ q = -2 ∨ q = -1 ∨ q = 0 ∨ q = 1 ∨ q = 2 ∨ q = 3 ∨ q = 4 ∨ q = 5 := by omega
  rcases this with rfl | rfl | rfl | rfl | rfl | rfl | rfl | rfl | rfl | rfl | rfl
  · exact sc0
  · exact sc1
  · exact sc2
  · exact sc3
  · exact sc4
  · exact sc5
  · exact sc6
  · exact sc7
  · exact sc8
  · exact sc9
  · exact sc10
theorem ex_turn {axis x : Int} (h : scB x = true) : ExM (M3.turn axis ⟨x, x⟩) := by
  unfold scB at h
  simp only [Bool.and_eq_true] at h
  have hs := exq_of h.1
  have hc := exq_of h.2
  have hn := exq_neg hs
  unfold M3.turn
  cases !(Iv.valid ⟨x, x⟩)
  · simp only [cond_false]
    cases decide (axis = 0)
    · simp only [cond_false]
      cases decide (axis = 1)
      · simp only [cond_false]
        cases decide (axis = 2)
        · exact ex_mzero
        · exact ⟨⟨hc, hn, exq0⟩, ⟨hs, hc, exq0⟩, ⟨exq0, exq0, exq1⟩⟩
      · exact ⟨⟨hc, exq0, hs⟩, ⟨exq0, exq1, exq0⟩, ⟨hn, exq0, hc⟩⟩
    · exact ⟨⟨exq1, exq0, exq0⟩, ⟨exq0, hc, hn⟩, ⟨exq0, hs, hc⟩⟩
  · exact ex_mzero
theorem ex_of (z : Z3) : ExV (V3.of z) := ⟨rfl, rfl, rfl⟩
theorem ex_put (k x : Int) : ExV (V3.put k ⟨x, x⟩) := by
  unfold V3.put
  split
  · exact ⟨rfl, rfl, rfl⟩
  · split <;> exact ⟨rfl, rfl, rfl⟩
theorem ex_jPose {k x : Int} {o : Z3} (h : k < 4 → ∃ q, (-5 ≤ q ∧ q ≤ 5) ∧ x = 16384 * q) : ExPo (jPose k o ⟨x, x⟩) := by
  unfold jPose
  refine ex_pmul ⟨ex_unit, ex_of o⟩ ?_
  unfold jMot
  split
  · rename_i hk
    obtain ⟨q, hq, rfl⟩ := h (by omega)
    exact ⟨ex_turn (sc_all hq.1 hq.2), ex_vzero⟩
  · split
    · exact ⟨ex_unit, ex_put _ _⟩
    · exact ⟨ex_unit, ex_vzero⟩
def QOK (js : List J) (cs : List Int) (k : Nat) : Prop := ∀ (i : Nat) (j : J) (x : Int), i < k → js[i]? = some j → cs[i]? = some x → j.kind < 4 → ∃ q, (-5 ≤ q ∧ q ≤ 5) ∧ x = 16384 * q
def pts1 (cs : List Int) : List Iv := cs.map fun x => ⟨x, x⟩
theorem ex_lks {js : List J} {cs : List Int} : ∀ n, QOK js cs n → ∀ p ∈ lks js (pts1 cs) n, ExPo p
  | 0, _, p, h => by cases h
  | n + 1, hq, p, h => by
    have ih := ex_lks n (fun i j x hi => hq i j x (by omega))
    cases hj : js[n]? with
    | none => simp only [lks, hj] at h; exact ih p h
    | some j =>
      cases hx : cs[n]? with
      | none =>
        have hb : (pts1 cs)[n]? = none := by simp [pts1, hx]
        simp only [lks, hj, hb] at h
        exact ih p h
      | some x =>
        have hb : (pts1 cs)[n]? = some ⟨x, x⟩ := by simp [pts1, hx]
        rw [lks_succ hj hb] at h
        rcases List.mem_append.1 h with h | h
        · exact ih p h
        · obtain rfl := List.mem_singleton.1 h
          have hJ := ex_jPose (o := j.off) (hq n j x (by omega) hj hx)
          unfold lkP
          split
          · exact hJ
          · refine ex_pmul ?_ hJ
            rw [List.getD_eq_getElem?_getD]
            cases hg : (lks js (pts1 cs) n)[j.parent.toNat]? with
            | none => exact ⟨ex_unit, ex_vzero⟩
            | some p => exact ih p (List.mem_of_getElem? hg)
theorem nq_of {a b : Int} (h : a = b) : (!decide (a = b)) = false := by simp [h]
end Go.Sx
namespace Go.Proofs.Ytonampcmhhhffaa
open Go.Sx
theorem fa23_0 : fieldB Try.prog 23 0 0 = true := by kernel_rfl
theorem ty2 : tyB Try.prog 2 false 1 = true := by kernel_rfl
theorem fa23_1 : fieldB Try.prog 23 1 1 = true := by kernel_rfl
theorem ze23 : zeroIs Try.prog 23 (.agg #[.int .i64 0, .int .i64 0]) := by unfold zeroIs; kernel_rfl
theorem en146 : Enters Try.prog 146 := enters_of Try.func146 (by kernel_rfl) (by kernel_rfl)
theorem la23 : layoutOf Try.prog 23 = some ([.int .i64 0, .int .i64 0], [(0, 1), (1, 1)]) := by kernel_rfl
theorem ty23 : tyB Try.prog 23 true 2 = true := by kernel_rfl
theorem en86 : Enters Try.prog 86 := enters_of Try.func86 (by kernel_rfl) (by kernel_rfl)
theorem en116 : Enters Try.prog 116 := enters_of Try.func116 (by kernel_rfl) (by kernel_rfl)
theorem en75 : Enters Try.prog 75 := enters_of Try.func75 (by kernel_rfl) (by kernel_rfl)
theorem en80 : Enters Try.prog 80 := enters_of Try.func80 (by kernel_rfl) (by kernel_rfl)
theorem en122 : Enters Try.prog 122 := enters_of Try.func122 (by kernel_rfl) (by kernel_rfl)
theorem en120 : Enters Try.prog 120 := enters_of Try.func120 (by kernel_rfl) (by kernel_rfl)
theorem mo : Try.prog.follows .mixedOrders = true := by kernel_rfl
theorem en123 : Enters Try.prog 123 := enters_of Try.func123 (by kernel_rfl) (by kernel_rfl)
theorem en124 : Enters Try.prog 124 := enters_of Try.func124 (by kernel_rfl) (by kernel_rfl)
theorem iValid (a0 a1 : Int) (w : World) : Calls Try.prog 75 [.agg #[.int .i64 a0, .int .i64 a1]].toArray w (Rets (vB (Iv.valid (⟨a0, a1⟩ : Iv))) (w)) := by
  refine calls_of_doC (n := 18) Try.func75 rfl rfl rfl ?_
  refine doC_seq ?_
  refine doC_region ?_
  refine doL_box 1 rfl rfl rfl rfl ?_; intro b1
  refine doL_v (opV_assign rfl) rfl rfl rfl ?_
  refine doL_nil ?_
  refine post_then ?_
  refine doC_seq ?_
  refine doC_region ?_
  refine doL_v (opV_fieldAddr fa23_0 rfl) rfl rfl rfl ?_
  refine doL_v (opV_load1 1 ty2 rfl rfl rfl) rfl rfl rfl ?_
  refine doL_v (opV_leq rfl rfl) rfl rfl rfl ?_
  refine doL_v (opV_move rfl) rfl rfl rfl ?_
  refine doL_split 6 rfl (fun hg6 => ?_) (fun hg6 => ?_)
  ·
    refine doL_v (opV_fieldAddr fa23_0 rfl) rfl rfl rfl ?_
    refine doL_v (opV_load1 1 ty2 rfl rfl rfl) rfl rfl rfl ?_
    refine doL_v (opV_fieldAddr fa23_1 rfl) rfl rfl rfl ?_
    refine doL_v (opV_load1 1 ty2 rfl rfl rfl) rfl rfl rfl ?_
    refine doL_v (opV_leq rfl rfl) rfl rfl rfl ?_
    refine doL_v (opV_pick_t rfl rfl rfl rfl) rfl rfl rfl ?_
    refine doL_v (opV_move rfl) rfl rfl rfl ?_
    refine doL_split 13 rfl (fun hg13 => ?_) (fun hg13 => ?_)
    ·
      refine doL_v (opV_fieldAddr fa23_1 rfl) rfl rfl rfl ?_
      refine doL_v (opV_load1 1 ty2 rfl rfl rfl) rfl rfl rfl ?_
      refine doL_v (opV_leq rfl rfl) rfl rfl rfl ?_
      refine doL_v (opV_pick_t rfl rfl rfl rfl) rfl rfl rfl ?_
      refine doL_v (opV_assign rfl) rfl rfl rfl ?_
      refine doL_nil ?_
      refine post_then ?_
      refine doC_ret ?_
      refine post_rets (rs := [.tmp 2]) rfl (resC (resIs_tmp rfl) (resN)) (congrArg (vB) (?_ : _ = Iv.valid (⟨a0, a1⟩ : Iv)))
      simp only [Iv.valid, *, Bool.and_false, Bool.and_true, Bool.true_and, Bool.false_and]
    ·
      refine doL_skip rfl rfl rfl ?_
      refine doL_skip rfl rfl rfl ?_
      refine doL_skip rfl rfl rfl ?_
      refine doL_v (opV_pick_f rfl rfl rfl rfl) rfl rfl rfl ?_
      refine doL_v (opV_assign rfl) rfl rfl rfl ?_
      refine doL_nil ?_
      refine post_then ?_
      refine doC_ret ?_
      refine post_rets (rs := [.tmp 2]) rfl (resC (resIs_tmp rfl) (resN)) (congrArg (vB) (?_ : _ = Iv.valid (⟨a0, a1⟩ : Iv)))
      simp only [Iv.valid, *, Bool.and_false, Bool.and_true, Bool.true_and, Bool.false_and]
  ·
    refine doL_skip rfl rfl rfl ?_
    refine doL_skip rfl rfl rfl ?_
    refine doL_skip rfl rfl rfl ?_
    refine doL_skip rfl rfl rfl ?_
    refine doL_skip rfl rfl rfl ?_
    refine doL_v (opV_pick_f rfl rfl rfl rfl) rfl rfl rfl ?_
    refine doL_v (opV_move rfl) rfl rfl rfl ?_
    refine doL_skip rfl rfl rfl ?_
    refine doL_skip rfl rfl rfl ?_
    refine doL_skip rfl rfl rfl ?_
    refine doL_v (opV_pick_f rfl rfl rfl rfl) rfl rfl rfl ?_
    refine doL_v (opV_assign rfl) rfl rfl rfl ?_
    refine doL_nil ?_
    refine post_then ?_
    refine doC_ret ?_
    refine post_rets (rs := [.tmp 2]) rfl (resC (resIs_tmp rfl) (resN)) (congrArg (vB) (?_ : _ = Iv.valid (⟨a0, a1⟩ : Iv)))
    simp only [Iv.valid, *, Bool.and_false, Bool.and_true, Bool.true_and, Bool.false_and]
theorem rValid (a0 a1 : Int) (w : World) : Calls Try.prog 80 [.agg #[.int .i64 a0, .int .i64 a1]].toArray w (Rets (vB (Iv.valid (⟨a0, a1⟩ : Iv))) (w)) := by
  refine calls_of_doC (n := 18) Try.func80 rfl rfl rfl ?_
  refine doC_seq ?_
  refine doC_region ?_
  refine doL_box 1 rfl rfl rfl rfl ?_; intro b1
  refine doL_v (opV_assign rfl) rfl rfl rfl ?_
  refine doL_nil ?_
  refine post_then ?_
  refine doC_seq ?_
  refine doC_region ?_
  refine doL_v (opV_fieldAddr fa23_0 rfl) rfl rfl rfl ?_
  refine doL_v (opV_load1 1 ty2 rfl rfl rfl) rfl rfl rfl ?_
  refine doL_v (opV_leq rfl rfl) rfl rfl rfl ?_
  refine doL_v (opV_move rfl) rfl rfl rfl ?_
  refine doL_split 6 rfl (fun hg6 => ?_) (fun hg6 => ?_)
  ·
    refine doL_v (opV_fieldAddr fa23_0 rfl) rfl rfl rfl ?_
    refine doL_v (opV_load1 1 ty2 rfl rfl rfl) rfl rfl rfl ?_
    refine doL_v (opV_fieldAddr fa23_1 rfl) rfl rfl rfl ?_
    refine doL_v (opV_load1 1 ty2 rfl rfl rfl) rfl rfl rfl ?_
    refine doL_v (opV_leq rfl rfl) rfl rfl rfl ?_
    refine doL_v (opV_pick_t rfl rfl rfl rfl) rfl rfl rfl ?_
    refine doL_v (opV_move rfl) rfl rfl rfl ?_
    refine doL_split 13 rfl (fun hg13 => ?_) (fun hg13 => ?_)
    ·
      refine doL_v (opV_fieldAddr fa23_1 rfl) rfl rfl rfl ?_
      refine doL_v (opV_load1 1 ty2 rfl rfl rfl) rfl rfl rfl ?_
      refine doL_v (opV_leq rfl rfl) rfl rfl rfl ?_
      refine doL_v (opV_pick_t rfl rfl rfl rfl) rfl rfl rfl ?_
      refine doL_v (opV_assign rfl) rfl rfl rfl ?_
      refine doL_nil ?_
      refine post_then ?_
      refine doC_ret ?_
      refine post_rets (rs := [.tmp 2]) rfl (resC (resIs_tmp rfl) (resN)) (congrArg (vB) (?_ : _ = Iv.valid (⟨a0, a1⟩ : Iv)))
      simp only [Iv.valid, *, Bool.and_false, Bool.and_true, Bool.true_and, Bool.false_and]
    ·
      refine doL_skip rfl rfl rfl ?_
      refine doL_skip rfl rfl rfl ?_
      refine doL_skip rfl rfl rfl ?_
      refine doL_v (opV_pick_f rfl rfl rfl rfl) rfl rfl rfl ?_
      refine doL_v (opV_assign rfl) rfl rfl rfl ?_
      refine doL_nil ?_
      refine post_then ?_
      refine doC_ret ?_
      refine post_rets (rs := [.tmp 2]) rfl (resC (resIs_tmp rfl) (resN)) (congrArg (vB) (?_ : _ = Iv.valid (⟨a0, a1⟩ : Iv)))
      simp only [Iv.valid, *, Bool.and_false, Bool.and_true, Bool.true_and, Bool.false_and]
  ·
    refine doL_skip rfl rfl rfl ?_
    refine doL_skip rfl rfl rfl ?_
    refine doL_skip rfl rfl rfl ?_
    refine doL_skip rfl rfl rfl ?_
    refine doL_skip rfl rfl rfl ?_
    refine doL_v (opV_pick_f rfl rfl rfl rfl) rfl rfl rfl ?_
    refine doL_v (opV_move rfl) rfl rfl rfl ?_
    refine doL_skip rfl rfl rfl ?_
    refine doL_skip rfl rfl rfl ?_
    refine doL_skip rfl rfl rfl ?_
    refine doL_v (opV_pick_f rfl rfl rfl rfl) rfl rfl rfl ?_
    refine doL_v (opV_assign rfl) rfl rfl rfl ?_
    refine doL_nil ?_
    refine post_then ?_
    refine doC_ret ?_
    refine post_rets (rs := [.tmp 2]) rfl (resC (resIs_tmp rfl) (resN)) (congrArg (vB) (?_ : _ = Iv.valid (⟨a0, a1⟩ : Iv)))
    simp only [Iv.valid, *, Bool.and_false, Bool.and_true, Bool.true_and, Bool.false_and]
theorem fClamp (a : Int) (w : World) : Calls Try.prog 146 [.int .i64 a].toArray w (Rets (vI (clampI a)) (w)) := by
  refine calls_of_doC (n := 6) Try.func146 rfl rfl rfl ?_
  refine doC_seq ?_
  refine doC_region ?_
  refine doL_v (opV_assign rfl) rfl rfl rfl ?_
  refine doL_nil ?_
  refine post_then ?_
  refine doC_seq ?_
  refine doC_region ?_
  refine doL_v (opV_move rfl) rfl rfl rfl ?_
  refine doL_v (opV_max2 rfl rfl) rfl rfl rfl ?_
  refine doL_v (opV_min2 rfl rfl) rfl rfl rfl ?_
  refine doL_v (opV_assign rfl) rfl rfl rfl ?_
  refine doL_nil ?_
  refine post_then ?_
  refine doC_ret ?_
  refine post_rets (rs := [.tmp 2]) rfl (resC (resIs_tmp rfl) (resN)) (congrArg (vI) (?_ : _ = clampI a))
  first | rfl | (subst_vars; rfl) | (subst_vars; simp_all)
theorem rClamp (a : Int) (w : World) : Calls Try.prog 86 [.int .i64 a].toArray w (Rets (vI (clampI a)) (w)) := by
  refine calls_of_doC (n := 6) Try.func86 rfl rfl rfl ?_
  refine doC_seq ?_
  refine doC_region ?_
  refine doL_v (opV_assign rfl) rfl rfl rfl ?_
  refine doL_nil ?_
  refine post_then ?_
  refine doC_seq ?_
  refine doC_region ?_
  refine doL_v (opV_move rfl) rfl rfl rfl ?_
  refine doL_v (opV_min2 rfl rfl) rfl rfl rfl ?_
  refine doL_v (opV_max2 rfl rfl) rfl rfl rfl ?_
  refine doL_v (opV_assign rfl) rfl rfl rfl ?_
  refine doL_nil ?_
  refine post_then ?_
  refine doC_ret ?_
  refine post_rets (rs := [.tmp 2]) rfl (resC (resIs_tmp rfl) (resN)) (congrArg (vI) (?_ : _ = clampI a))
  unfold clampI; omega
theorem fShiftDown (a : Int) (k : Int) (h0 : 0 ≤ k ∧ k ≤ 62) (w : World) : Calls Try.prog 151 [.int .i64 a, .int .i64 k].toArray w (Rets (vI (a / 2 ^ (k).toNat)) (w)) := by
  refine calls_of_doC (n := 11) Try.func151 rfl rfl rfl ?_
  refine doC_seq ?_
  refine doC_region ?_
  refine doL_v (opV_assign rfl) rfl rfl rfl ?_
  refine doL_nil ?_
  refine post_then ?_
  refine doC_seq ?_
  refine doC_seq ?_
  refine doC_region ?_
  refine doL_v (opV_move rfl) rfl rfl rfl ?_
  refine doL_v (opV_lss rfl rfl) rfl rfl rfl ?_
  refine doL_nil ?_
  refine post_then ?_
  refine doC_cond_f rfl (by simp; omega) ?_
  refine doC_skip ?_
  refine post_then ?_
  refine doC_seq ?_
  refine doC_region ?_
  refine doL_v (opV_move rfl) rfl rfl rfl ?_
  refine doL_v (opV_move rfl) rfl rfl rfl ?_
  refine doL_v (opV_shr rfl rfl (by first | decide | omega) (shr_eq (by omega) (by omega))) rfl rfl rfl ?_
  refine doL_v (opV_assign rfl) rfl rfl rfl ?_
  refine doL_nil ?_
  refine post_then ?_
  refine doC_ret ?_
  refine post_rets (rs := [.tmp 4]) rfl (resC (resIs_tmp rfl) (resN)) (congrArg (vI) (?_ : _ = a / 2 ^ (k).toNat))
  first | rfl | (subst_vars; rfl) | (subst_vars; simp_all)
theorem fShiftUp (a : Int) (k : Int) (h0 : 0 ≤ k ∧ k ≤ 62) (ha : In64 a) (w : World) : Calls Try.prog 152 [.int .i64 a, .int .i64 k].toArray w (Rets (vI (ceilI a (2 ^ (k).toNat))) (w)) := by
  refine calls_of_doC (n := 20) Try.func152 rfl rfl rfl ?_
  refine doC_seq ?_
  refine doC_region ?_
  refine doL_v (opV_assign rfl) rfl rfl rfl ?_
  refine doL_nil ?_
  refine post_then ?_
  refine doC_seq ?_
  refine doC_seq ?_
  refine doC_region ?_
  refine doL_v (opV_move rfl) rfl rfl rfl ?_
  refine doL_v (opV_lss rfl rfl) rfl rfl rfl ?_
  refine doL_nil ?_
  refine post_then ?_
  refine doC_cond_f rfl (by simp; omega) ?_
  refine doC_skip ?_
  refine post_then ?_
  refine doC_seq ?_
  refine doC_region ?_
  refine doL_v (opV_move rfl) rfl rfl rfl ?_
  refine doL_v (opV_move rfl) rfl rfl rfl ?_
  refine doL_v (opV_shr rfl rfl (by first | decide | omega) (shr_eq (by omega) (by omega))) rfl rfl rfl ?_
  refine doL_v (opV_assign rfl) rfl rfl rfl ?_
  refine doL_nil ?_
  refine post_then ?_
  refine doC_seq ?_
  refine doC_seq ?_
  refine doC_region ?_
  refine doL_v (opV_move rfl) rfl rfl rfl ?_
  refine doL_v (opV_move rfl) rfl rfl rfl ?_
  refine doL_v (opV_shl rfl rfl (by first | decide | omega) (shl_eq ha (by omega) (by omega))) rfl rfl rfl ?_
  refine doL_v (opV_move rfl) rfl rfl rfl ?_
  refine doL_v (opV_neq rfl rfl) rfl rfl rfl ?_
  refine doL_nil ?_
  refine post_then ?_
  refine doC_cond rfl (fun hc16 => ?_) (fun hc16 => ?_)
  ·
    have h1 : ¬ a / 2 ^ k.toNat * 2 ^ k.toNat = a := by simpa using hc16
    have h2 := ceil_of_ne (Int.pow_pos (by decide)) h1
    refine doC_region ?_
    refine doL_v (opV_move rfl) rfl rfl rfl ?_
    refine doL_v (opV_add rfl rfl (i64_in (shiftUp_bnd ha h1))) rfl rfl rfl ?_
    refine doL_v (opV_assign rfl) rfl rfl rfl ?_
    refine doL_nil ?_
    refine post_then ?_
    refine doC_seq ?_
    refine doC_region ?_
    refine doL_v (opV_move rfl) rfl rfl rfl ?_
    refine doL_v (opV_assign rfl) rfl rfl rfl ?_
    refine doL_nil ?_
    refine post_then ?_
    refine doC_ret ?_
    refine post_rets (rs := [.tmp 4]) rfl (resC (resIs_tmp rfl) (resN)) (congrArg (vI) (?_ : _ = ceilI a (2 ^ (k).toNat)))
    exact h2
  ·
    have h1 : a / 2 ^ k.toNat * 2 ^ k.toNat = a := by simpa using hc16
    have h2 := ceil_of_mul (Int.pow_pos (by decide)) h1
    refine doC_skip ?_
    refine post_then ?_
    refine doC_seq ?_
    refine doC_region ?_
    refine doL_v (opV_move rfl) rfl rfl rfl ?_
    refine doL_v (opV_assign rfl) rfl rfl rfl ?_
    refine doL_nil ?_
    refine post_then ?_
    refine doC_ret ?_
    refine post_rets (rs := [.tmp 4]) rfl (resC (resIs_tmp rfl) (resN)) (congrArg (vI) (?_ : _ = ceilI a (2 ^ (k).toNat)))
    exact h2
theorem rFloor (a : Int) (b : Int) (ha : In64 a) (hb : 0 < b) (w : World) : Calls Try.prog 123 [.int .i64 a, .int .i64 b].toArray w (Rets (vI (a / b)) (w)) := by
  refine calls_of_doC (n := 16) Try.func123 rfl rfl rfl ?_
  refine doC_seq ?_
  have hq := tdiv_bnd ha hb
  refine doC_region ?_
  refine doL_v (opV_assign rfl) rfl rfl rfl ?_
  refine doL_nil ?_
  refine post_then ?_
  refine doC_seq ?_
  refine doC_region ?_
  refine doL_v (opV_move rfl) rfl rfl rfl ?_
  refine doL_v (opV_move rfl) rfl rfl rfl ?_
  refine doL_v (opV_quo rfl rfl (by first | decide | omega) (i64_in hq)) rfl rfl rfl ?_
  refine doL_v (opV_assign rfl) rfl rfl rfl ?_
  refine doL_nil ?_
  refine post_then ?_
  refine doC_seq ?_
  refine doC_seq ?_
  refine doC_region ?_
  refine doL_v (opV_move rfl) rfl rfl rfl ?_
  refine doL_v (opV_move rfl) rfl rfl rfl ?_
  refine doL_v (opV_rem rfl rfl (by first | decide | omega) rfl) rfl rfl rfl ?_
  refine doL_v (opV_lss rfl rfl) rfl rfl rfl ?_
  refine doL_nil ?_
  refine post_then ?_
  refine doC_cond rfl (fun hc12 => ?_) (fun hc12 => ?_)
  ·
    refine doC_region ?_
    refine doL_v (opV_move rfl) rfl rfl rfl ?_
    refine doL_v (opV_sub rfl rfl (i64_in (floor_bnd ha hb (by simpa using hc12)))) rfl rfl rfl ?_
    refine doL_v (opV_assign rfl) rfl rfl rfl ?_
    refine doL_nil ?_
    refine post_then ?_
    refine doC_seq ?_
    refine doC_region ?_
    refine doL_v (opV_move rfl) rfl rfl rfl ?_
    refine doL_v (opV_assign rfl) rfl rfl rfl ?_
    refine doL_nil ?_
    refine post_then ?_
    refine doC_ret ?_
    refine post_rets (rs := [.tmp 4]) rfl (resC (resIs_tmp rfl) (resN)) (congrArg (vI) (?_ : _ = a / b))
    exact floor_neg hb (by simpa using hc12)
  ·
    refine doC_skip ?_
    refine post_then ?_
    refine doC_seq ?_
    refine doC_region ?_
    refine doL_v (opV_move rfl) rfl rfl rfl ?_
    refine doL_v (opV_assign rfl) rfl rfl rfl ?_
    refine doL_nil ?_
    refine post_then ?_
    refine doC_ret ?_
    refine post_rets (rs := [.tmp 4]) rfl (resC (resIs_tmp rfl) (resN)) (congrArg (vI) (?_ : _ = a / b))
    exact floor_pos hb (by simpa using hc12)
theorem rCeil (a : Int) (b : Int) (ha : In64 a) (hb : 0 < b) (w : World) : Calls Try.prog 124 [.int .i64 a, .int .i64 b].toArray w (Rets (vI (ceilI a b)) (w)) := by
  refine calls_of_doC (n := 16) Try.func124 rfl rfl rfl ?_
  refine doC_seq ?_
  have hq := tdiv_bnd ha hb
  refine doC_region ?_
  refine doL_v (opV_assign rfl) rfl rfl rfl ?_
  refine doL_nil ?_
  refine post_then ?_
  refine doC_seq ?_
  refine doC_region ?_
  refine doL_v (opV_move rfl) rfl rfl rfl ?_
  refine doL_v (opV_move rfl) rfl rfl rfl ?_
  refine doL_v (opV_quo rfl rfl (by first | decide | omega) (i64_in hq)) rfl rfl rfl ?_
  refine doL_v (opV_assign rfl) rfl rfl rfl ?_
  refine doL_nil ?_
  refine post_then ?_
  refine doC_seq ?_
  refine doC_seq ?_
  refine doC_region ?_
  refine doL_v (opV_move rfl) rfl rfl rfl ?_
  refine doL_v (opV_move rfl) rfl rfl rfl ?_
  refine doL_v (opV_rem rfl rfl (by first | decide | omega) rfl) rfl rfl rfl ?_
  refine doL_v (opV_gtr rfl rfl) rfl rfl rfl ?_
  refine doL_nil ?_
  refine post_then ?_
  refine doC_cond rfl (fun hc12 => ?_) (fun hc12 => ?_)
  ·
    refine doC_region ?_
    refine doL_v (opV_move rfl) rfl rfl rfl ?_
    refine doL_v (opV_add rfl rfl (i64_in (ceil_bnd ha hb (by simpa using hc12)))) rfl rfl rfl ?_
    refine doL_v (opV_assign rfl) rfl rfl rfl ?_
    refine doL_nil ?_
    refine post_then ?_
    refine doC_seq ?_
    refine doC_region ?_
    refine doL_v (opV_move rfl) rfl rfl rfl ?_
    refine doL_v (opV_assign rfl) rfl rfl rfl ?_
    refine doL_nil ?_
    refine post_then ?_
    refine doC_ret ?_
    refine post_rets (rs := [.tmp 4]) rfl (resC (resIs_tmp rfl) (resN)) (congrArg (vI) (?_ : _ = ceilI a b))
    exact ceil_pos hb (by simpa using hc12)
  ·
    refine doC_skip ?_
    refine post_then ?_
    refine doC_seq ?_
    refine doC_region ?_
    refine doL_v (opV_move rfl) rfl rfl rfl ?_
    refine doL_v (opV_assign rfl) rfl rfl rfl ?_
    refine doL_nil ?_
    refine post_then ?_
    refine doC_ret ?_
    refine post_rets (rs := [.tmp 4]) rfl (resC (resIs_tmp rfl) (resN)) (congrArg (vI) (?_ : _ = ceilI a b))
    exact ceil_neg hb (by simpa using hc12)
theorem iLimited (lo : Int) (hi : Int) (w : World) : Calls Try.prog 116 [.int .i64 lo, .int .i64 hi].toArray w (Rets (iv (Iv.limited lo hi)) (w)) := by
  refine calls_of_doC (n := 10) Try.func116 rfl rfl rfl ?_
  refine doC_seq ?_
  refine doC_region ?_
  refine doL_alloc 4 ze23 rfl rfl rfl ?_; intro b4
  refine doL_nil ?_
  refine post_then ?_
  refine doC_seq ?_
  refine doC_region ?_
  refine doL_v (opV_move rfl) rfl rfl rfl ?_
  refine doL_vg (F := vI) (opV_call en146 rfl (fun w _ => fClamp _  w)) rfl rfl rfl ?_; intro r6 hr6
  refine doL_v (opV_move rfl) rfl rfl rfl ?_
  refine doL_vg (F := vI) (opV_call en146 rfl (fun w _ => fClamp _  w)) rfl rfl rfl ?_; intro r8 hr8
  refine doL_v (opV_build la23 rfl rfl) rfl rfl rfl ?_
  refine doL_store 4 ty23 rfl rfl rfl rfl rfl rfl rfl rfl ?_
  refine doL_nil ?_
  refine post_then ?_
  refine doC_ret ?_
  refine post_rets (rs := [.cell 4 23]) rfl (resC (resIs_cell 4 rfl rfl ty23 rfl) (resN)) (congrArg (iv) (?_ : ⟨_, _⟩ = Iv.limited lo hi))
  first | rfl | (subst_vars; rfl) | (subst_vars; simp_all)
theorem rLimited (lo : Int) (hi : Int) (w : World) : Calls Try.prog 122 [.int .i64 lo, .int .i64 hi].toArray w (Rets (iv (Iv.limited lo hi)) (w)) := by
  refine calls_of_doC (n := 10) Try.func122 rfl rfl rfl ?_
  refine doC_seq ?_
  refine doC_region ?_
  refine doL_alloc 4 ze23 rfl rfl rfl ?_; intro b4
  refine doL_nil ?_
  refine post_then ?_
  refine doC_seq ?_
  refine doC_region ?_
  refine doL_v (opV_move rfl) rfl rfl rfl ?_
  refine doL_vg (F := vI) (opV_call en86 rfl (fun w _ => rClamp _  w)) rfl rfl rfl ?_; intro r6 hr6
  refine doL_v (opV_move rfl) rfl rfl rfl ?_
  refine doL_vg (F := vI) (opV_call en86 rfl (fun w _ => rClamp _  w)) rfl rfl rfl ?_; intro r8 hr8
  refine doL_v (opV_build la23 rfl rfl) rfl rfl rfl ?_
  refine doL_store 4 ty23 rfl rfl rfl rfl rfl rfl rfl rfl ?_
  refine doL_nil ?_
  refine post_then ?_
  refine doC_ret ?_
  refine post_rets (rs := [.cell 4 23]) rfl (resC (resIs_cell 4 rfl rfl ty23 rfl) (resN)) (congrArg (iv) (?_ : ⟨_, _⟩ = Iv.limited lo hi))
  first | rfl | (subst_vars; rfl) | (subst_vars; simp_all)
theorem iOf (x : Int) (w : World) : Calls Try.prog 79 [.int .i64 x].toArray w (Rets (iv (Iv.of x)) (w)) := by
  refine calls_of_doC (n := 6) Try.func79 rfl rfl rfl ?_
  refine doC_seq ?_
  refine doC_region ?_
  refine doL_alloc 2 ze23 rfl rfl rfl ?_; intro b2
  refine doL_nil ?_
  refine post_then ?_
  refine doC_seq ?_
  refine doC_region ?_
  refine doL_v (opV_move rfl) rfl rfl rfl ?_
  refine doL_v (opV_move rfl) rfl rfl rfl ?_
  refine doL_vg (F := iv) (opV_call en116 rfl (fun w _ => iLimited _ _  w)) rfl rfl rfl ?_; intro r5 hr5
  refine doL_store 2 ty23 rfl rfl rfl rfl rfl rfl rfl rfl ?_
  refine doL_nil ?_
  refine post_then ?_
  refine doC_ret ?_
  refine post_rets (rs := [.cell 2 23]) rfl (resC (resIs_cell 2 rfl rfl ty23 rfl) (resN)) (congrArg (iv) (?_ : ⟨_, _⟩ = Iv.of x))
  first | rfl | (subst_vars; rfl) | (subst_vars; simp_all)
theorem rOf (x : Int) (w : World) : Calls Try.prog 31 [.int .i64 x].toArray w (Rets (iv (Iv.of x)) (w)) := by
  refine calls_of_doC (n := 8) Try.func31 rfl rfl rfl ?_
  refine doC_seq ?_
  refine doC_region ?_
  refine doL_alloc 2 ze23 rfl rfl rfl ?_; intro b2
  refine doL_nil ?_
  refine post_then ?_
  refine doC_seq ?_
  refine doC_region ?_
  refine doL_v (opV_move rfl) rfl rfl rfl ?_
  refine doL_vg (F := vI) (opV_call en86 rfl (fun w _ => rClamp _  w)) rfl rfl rfl ?_; intro r4 hr4
  refine doL_v (opV_move rfl) rfl rfl rfl ?_
  refine doL_vg (F := vI) (opV_call en86 rfl (fun w _ => rClamp _  w)) rfl rfl rfl ?_; intro r6 hr6
  refine doL_v (opV_build la23 rfl rfl) rfl rfl rfl ?_
  refine doL_store 2 ty23 rfl rfl rfl rfl rfl rfl rfl rfl ?_
  refine doL_nil ?_
  refine post_then ?_
  refine doC_ret ?_
  refine post_rets (rs := [.cell 2 23]) rfl (resC (resIs_cell 2 rfl rfl ty23 rfl) (resN)) (congrArg (iv) (?_ : ⟨_, _⟩ = Iv.of x))
  first | rfl | (subst_vars; rfl) | (subst_vars; simp_all)
theorem iNeg (a0 a1 : Int) (w : World) : Calls Try.prog 78 [.agg #[.int .i64 a0, .int .i64 a1]].toArray w (Rets (iv (Iv.neg (⟨a0, a1⟩ : Iv))) (w)) := by
  refine calls_of_doC (n := 14) Try.func78 rfl rfl rfl ?_
  refine doC_seq ?_
  refine doC_region ?_
  refine doL_box 1 rfl rfl rfl rfl ?_; intro b1
  refine doL_alloc 2 ze23 rfl rfl rfl ?_; intro b2
  refine doL_nil ?_
  refine post_then ?_
  refine doC_seq ?_
  refine doC_seq ?_
  refine doC_region ?_
  refine doL_v (opV_loadA 1 ty23 rfl rfl rfl) rfl rfl rfl ?_
  refine doL_vg (F := vB) (opV_call en75 rfl (fun w _ => iValid _ _  w)) rfl rfl rfl ?_; intro r4 hr4
  refine doL_v (opV_not rfl) rfl rfl rfl ?_
  refine doL_nil ?_
  refine post_then ?_
  refine doC_cond rfl (fun hc5 => ?_) (fun hc5 => ?_)
  ·
    simp only [Bool.not_eq_true'] at hc5
    refine doC_seq ?_
    refine doC_region ?_
    refine doL_v (opV_build la23 rfl rfl) rfl rfl rfl ?_
    refine doL_store 2 ty23 rfl rfl rfl rfl rfl rfl rfl rfl ?_
    refine doL_nil ?_
    refine post_then ?_
    refine doC_ret ?_
    refine post_then_ret ?_
    refine post_rets (rs := [.cell 2 23]) rfl (resC (resIs_cell 2 rfl rfl ty23 rfl) (resN)) (congrArg (iv) (?_ : ⟨_, _⟩ = Iv.neg (⟨a0, a1⟩ : Iv)))
    subst_vars; first | (simp_all [Iv.neg]; done) | (simp_all [Iv.neg] <;> omega) | grind [Iv.neg]
  ·
    simp only [Bool.not_eq_false'] at hc5
    have hv := valid_mk (hr4.symm.trans hc5)
    refine doC_skip ?_
    refine post_then ?_
    refine doC_seq ?_
    refine doC_region ?_
    refine doL_v (opV_fieldAddr fa23_1 rfl) rfl rfl rfl ?_
    refine doL_v (opV_load1 1 ty2 rfl rfl rfl) rfl rfl rfl ?_
    refine doL_v (opV_neg rfl (by first | exact neg_in ⟨by omega, by omega⟩ | rfl)) rfl rfl rfl ?_
    refine doL_v (opV_fieldAddr fa23_0 rfl) rfl rfl rfl ?_
    refine doL_v (opV_load1 1 ty2 rfl rfl rfl) rfl rfl rfl ?_
    refine doL_v (opV_neg rfl (by first | exact neg_in ⟨by omega, by omega⟩ | rfl)) rfl rfl rfl ?_
    refine doL_v (opV_build la23 rfl rfl) rfl rfl rfl ?_
    refine doL_store 2 ty23 rfl rfl rfl rfl rfl rfl rfl rfl ?_
    refine doL_nil ?_
    refine post_then ?_
    refine doC_ret ?_
    refine post_rets (rs := [.cell 2 23]) rfl (resC (resIs_cell 2 rfl rfl ty23 rfl) (resN)) (congrArg (iv) (?_ : ⟨_, _⟩ = Iv.neg (⟨a0, a1⟩ : Iv)))
    subst_vars; first | (simp_all [Iv.neg]; done) | (simp_all [Iv.neg] <;> omega) | grind [Iv.neg]
theorem iValid2 (a0 a1 : Int) (b0 b1 : Int) (w : World) : Calls Try.prog 120 [.agg #[.int .i64 a0, .int .i64 a1], .agg #[.int .i64 b0, .int .i64 b1]].toArray w (Rets (vB ((Iv.valid (⟨a0, a1⟩ : Iv) && Iv.valid (⟨b0, b1⟩ : Iv)))) (w)) := by
  refine calls_of_doC (n := 11) Try.func120 rfl rfl rfl ?_
  refine doC_seq ?_
  refine doC_region ?_
  refine doL_box 2 rfl rfl rfl rfl ?_; intro b2
  refine doL_box 3 rfl rfl rfl rfl ?_; intro b3
  refine doL_v (opV_assign rfl) rfl rfl rfl ?_
  refine doL_nil ?_
  refine post_then ?_
  refine doC_seq ?_
  refine doC_region ?_
  refine doL_v (opV_loadA 2 ty23 rfl rfl rfl) rfl rfl rfl ?_
  refine doL_vg (F := vB) (opV_call en75 rfl (fun w _ => iValid _ _  w)) rfl rfl rfl ?_; intro r6 hr6
  refine doL_v (opV_move rfl) rfl rfl rfl ?_
  refine doL_split 7 rfl (fun hg7 => ?_) (fun hg7 => ?_)
  ·
    refine doL_v (opV_loadA 3 ty23 rfl rfl rfl) rfl rfl rfl ?_
    refine doL_vg (F := vB) (opV_call en75 rfl (fun w _ => iValid _ _  w)) rfl rfl rfl ?_; intro r9 hr9
    refine doL_v (opV_pick_t rfl rfl rfl rfl) rfl rfl rfl ?_
    refine doL_v (opV_assign rfl) rfl rfl rfl ?_
    refine doL_nil ?_
    refine post_then ?_
    refine doC_ret ?_
    refine post_rets (rs := [.tmp 4]) rfl (resC (resIs_tmp rfl) (resN)) (congrArg (vB) (?_ : _ = (Iv.valid (⟨a0, a1⟩ : Iv) && Iv.valid (⟨b0, b1⟩ : Iv))))
    subst_vars; simp_all
  ·
    refine doL_skip rfl rfl rfl ?_
    refine doL_skip rfl rfl rfl ?_
    refine doL_v (opV_pick_f rfl rfl rfl rfl) rfl rfl rfl ?_
    refine doL_v (opV_assign rfl) rfl rfl rfl ?_
    refine doL_nil ?_
    refine post_then ?_
    refine doC_ret ?_
    refine post_rets (rs := [.tmp 4]) rfl (resC (resIs_tmp rfl) (resN)) (congrArg (vB) (?_ : _ = (Iv.valid (⟨a0, a1⟩ : Iv) && Iv.valid (⟨b0, b1⟩ : Iv))))
    subst_vars; simp_all
theorem rAdd (a0 a1 : Int) (b0 b1 : Int) (w : World) : Calls Try.prog 87 [.agg #[.int .i64 a0, .int .i64 a1], .agg #[.int .i64 b0, .int .i64 b1]].toArray w (Rets (iv (Iv.add (⟨a0, a1⟩ : Iv) (⟨b0, b1⟩ : Iv))) (w)) := by
  refine calls_of_doC (n := 25) Try.func87 rfl rfl rfl ?_
  refine doC_seq ?_
  refine doC_region ?_
  refine doL_box 2 rfl rfl rfl rfl ?_; intro b2
  refine doL_box 3 rfl rfl rfl rfl ?_; intro b3
  refine doL_alloc 4 ze23 rfl rfl rfl ?_; intro b4
  refine doL_nil ?_
  refine post_then ?_
  refine doC_seq ?_
  refine doC_seq ?_
  refine doC_region ?_
  refine doL_v (opV_loadA 2 ty23 rfl rfl rfl) rfl rfl rfl ?_
  refine doL_vg (F := vB) (opV_call en80 rfl (fun w _ => rValid _ _  w)) rfl rfl rfl ?_; intro r6 hr6
  refine doL_v (opV_not rfl) rfl rfl rfl ?_
  refine doL_v (opV_move rfl) rfl rfl rfl ?_
  refine doL_split 8 rfl (fun hg8 => ?_) (fun hg8 => ?_)
  ·
    refine doL_skip rfl rfl rfl ?_
    refine doL_skip rfl rfl rfl ?_
    refine doL_skip rfl rfl rfl ?_
    refine doL_v (opV_pick_t rfl rfl rfl rfl) rfl rfl rfl ?_
    refine doL_nil ?_
    refine post_then ?_
    refine doC_cond_t rfl (rfl) ?_
    refine doC_seq ?_
    refine doC_region ?_
    refine doL_v (opV_build la23 rfl rfl) rfl rfl rfl ?_
    refine doL_store 4 ty23 rfl rfl rfl rfl rfl rfl rfl rfl ?_
    refine doL_nil ?_
    refine post_then ?_
    refine doC_ret ?_
    refine post_then_ret ?_
    refine post_rets (rs := [.cell 4 23]) rfl (resC (resIs_cell 4 rfl rfl ty23 rfl) (resN)) (congrArg (iv) (?_ : ⟨_, _⟩ = Iv.add (⟨a0, a1⟩ : Iv) (⟨b0, b1⟩ : Iv)))
    subst_vars; first | (simp_all [Iv.add, Iv.limited]; done) | (simp_all [Iv.add, Iv.limited] <;> omega) | grind [Iv.add, Iv.limited]
  ·
    refine doL_v (opV_loadA 3 ty23 rfl rfl rfl) rfl rfl rfl ?_
    refine doL_vg (F := vB) (opV_call en80 rfl (fun w _ => rValid _ _  w)) rfl rfl rfl ?_; intro r10 hr10
    refine doL_v (opV_not rfl) rfl rfl rfl ?_
    refine doL_v (opV_pick_f rfl rfl rfl rfl) rfl rfl rfl ?_
    refine doL_nil ?_
    refine post_then ?_
    refine doC_cond rfl (fun hc12 => ?_) (fun hc12 => ?_)
    ·
      refine doC_seq ?_
      refine doC_region ?_
      refine doL_v (opV_build la23 rfl rfl) rfl rfl rfl ?_
      refine doL_store 4 ty23 rfl rfl rfl rfl rfl rfl rfl rfl ?_
      refine doL_nil ?_
      refine post_then ?_
      refine doC_ret ?_
      refine post_then_ret ?_
      refine post_rets (rs := [.cell 4 23]) rfl (resC (resIs_cell 4 rfl rfl ty23 rfl) (resN)) (congrArg (iv) (?_ : ⟨_, _⟩ = Iv.add (⟨a0, a1⟩ : Iv) (⟨b0, b1⟩ : Iv)))
      subst_vars; first | (simp_all [Iv.add, Iv.limited]; done) | (simp_all [Iv.add, Iv.limited] <;> omega) | grind [Iv.add, Iv.limited]
    ·
      refine doC_skip ?_
      refine post_then ?_
      refine doC_seq ?_
      have ha := valid_mk (hr6.symm.trans (by simpa using hg8))
      have hb := valid_mk (hr10.symm.trans (by simpa using hc12))
      refine doC_region ?_
      refine doL_v (opV_fieldAddr fa23_0 rfl) rfl rfl rfl ?_
      refine doL_v (opV_load1 2 ty2 rfl rfl rfl) rfl rfl rfl ?_
      refine doL_v (opV_fieldAddr fa23_0 rfl) rfl rfl rfl ?_
      refine doL_v (opV_load1 3 ty2 rfl rfl rfl) rfl rfl rfl ?_
      refine doL_v (opV_add rfl rfl (by first | exact i64_in ⟨by omega, by omega⟩ | rfl)) rfl rfl rfl ?_
      refine doL_v (opV_fieldAddr fa23_1 rfl) rfl rfl rfl ?_
      refine doL_v (opV_load1 2 ty2 rfl rfl rfl) rfl rfl rfl ?_
      refine doL_v (opV_fieldAddr fa23_1 rfl) rfl rfl rfl ?_
      refine doL_v (opV_load1 3 ty2 rfl rfl rfl) rfl rfl rfl ?_
      refine doL_v (opV_add rfl rfl (by first | exact i64_in ⟨by omega, by omega⟩ | rfl)) rfl rfl rfl ?_
      refine doL_vg (F := iv) (opV_call en122 rfl (fun w _ => rLimited _ _  w)) rfl rfl rfl ?_; intro r24 hr24
      refine doL_store 4 ty23 rfl rfl rfl rfl rfl rfl rfl rfl ?_
      refine doL_nil ?_
      refine post_then ?_
      refine doC_ret ?_
      refine post_rets (rs := [.cell 4 23]) rfl (resC (resIs_cell 4 rfl rfl ty23 rfl) (resN)) (congrArg (iv) (?_ : ⟨_, _⟩ = Iv.add (⟨a0, a1⟩ : Iv) (⟨b0, b1⟩ : Iv)))
      subst_vars; first | (simp_all [Iv.add, Iv.limited]; done) | (simp_all [Iv.add, Iv.limited] <;> omega) | grind [Iv.add, Iv.limited]
theorem iAdd (a0 a1 : Int) (b0 b1 : Int) (w : World) : Calls Try.prog 84 [.agg #[.int .i64 a0, .int .i64 a1], .agg #[.int .i64 b0, .int .i64 b1]].toArray w (Rets (iv (Iv.add (⟨a0, a1⟩ : Iv) (⟨b0, b1⟩ : Iv))) (w)) := by
  refine calls_of_doC (n := 21) Try.func84 rfl rfl rfl ?_
  refine doC_seq ?_
  refine doC_region ?_
  refine doL_box 2 rfl rfl rfl rfl ?_; intro b2
  refine doL_box 3 rfl rfl rfl rfl ?_; intro b3
  refine doL_alloc 4 ze23 rfl rfl rfl ?_; intro b4
  refine doL_nil ?_
  refine post_then ?_
  refine doC_seq ?_
  refine doC_seq ?_
  refine doC_region ?_
  refine doL_v (opV_loadA 2 ty23 rfl rfl rfl) rfl rfl rfl ?_
  refine doL_v (opV_loadA 3 ty23 rfl rfl rfl) rfl rfl rfl ?_
  refine doL_vg (F := vB) (opV_call en120 rfl (fun w _ => iValid2 _ _ _ _  w)) rfl rfl rfl ?_; intro r7 hr7
  refine doL_v (opV_not rfl) rfl rfl rfl ?_
  refine doL_nil ?_
  refine post_then ?_
  refine doC_cond rfl (fun hc8 => ?_) (fun hc8 => ?_)
  ·
    refine doC_seq ?_
    refine doC_region ?_
    refine doL_v (opV_build la23 rfl rfl) rfl rfl rfl ?_
    refine doL_store 4 ty23 rfl rfl rfl rfl rfl rfl rfl rfl ?_
    refine doL_nil ?_
    refine post_then ?_
    refine doC_ret ?_
    refine post_then_ret ?_
    refine post_rets (rs := [.cell 4 23]) rfl (resC (resIs_cell 4 rfl rfl ty23 rfl) (resN)) (congrArg (iv) (?_ : ⟨_, _⟩ = Iv.add (⟨a0, a1⟩ : Iv) (⟨b0, b1⟩ : Iv)))
    subst_vars; first | (simp_all [Iv.add, Iv.limited]; done) | (simp_all [Iv.add, Iv.limited] <;> omega) | grind [Iv.add, Iv.limited]
  ·
    refine doC_skip ?_
    refine post_then ?_
    refine doC_seq ?_
    have hv := hr7.symm.trans (by simpa using hc8)
    rw [Bool.and_eq_true] at hv
    have ha := valid_mk hv.1
    have hb := valid_mk hv.2
    refine doC_region ?_
    refine doL_v (opV_fieldAddr fa23_0 rfl) rfl rfl rfl ?_
    refine doL_v (opV_load1 2 ty2 rfl rfl rfl) rfl rfl rfl ?_
    refine doL_v (opV_fieldAddr fa23_0 rfl) rfl rfl rfl ?_
    refine doL_v (opV_load1 3 ty2 rfl rfl rfl) rfl rfl rfl ?_
    refine doL_v (opV_add rfl rfl (by first | exact i64_in ⟨by omega, by omega⟩ | rfl)) rfl rfl rfl ?_
    refine doL_v (opV_fieldAddr fa23_1 rfl) rfl rfl rfl ?_
    refine doL_v (opV_load1 2 ty2 rfl rfl rfl) rfl rfl rfl ?_
    refine doL_v (opV_fieldAddr fa23_1 rfl) rfl rfl rfl ?_
    refine doL_v (opV_load1 3 ty2 rfl rfl rfl) rfl rfl rfl ?_
    refine doL_v (opV_add rfl rfl (by first | exact i64_in ⟨by omega, by omega⟩ | rfl)) rfl rfl rfl ?_
    refine doL_vg (F := iv) (opV_call en116 rfl (fun w _ => iLimited _ _  w)) rfl rfl rfl ?_; intro r20 hr20
    refine doL_store 4 ty23 rfl rfl rfl rfl rfl rfl rfl rfl ?_
    refine doL_nil ?_
    refine post_then ?_
    refine doC_ret ?_
    refine post_rets (rs := [.cell 4 23]) rfl (resC (resIs_cell 4 rfl rfl ty23 rfl) (resN)) (congrArg (iv) (?_ : ⟨_, _⟩ = Iv.add (⟨a0, a1⟩ : Iv) (⟨b0, b1⟩ : Iv)))
    subst_vars; first | (simp_all [Iv.add, Iv.limited]; done) | (simp_all [Iv.add, Iv.limited] <;> omega) | grind [Iv.add, Iv.limited]
theorem iHull (a0 a1 : Int) (b0 b1 : Int) (w : World) : Calls Try.prog 142 [.agg #[.int .i64 a0, .int .i64 a1], .agg #[.int .i64 b0, .int .i64 b1]].toArray w (Rets (iv (Iv.hull (⟨a0, a1⟩ : Iv) (⟨b0, b1⟩ : Iv))) (w)) := by
  refine calls_of_doC (n := 21) Try.func142 rfl rfl rfl ?_
  refine doC_seq ?_
  refine doC_region ?_
  refine doL_box 2 rfl rfl rfl rfl ?_; intro b2
  refine doL_box 3 rfl rfl rfl rfl ?_; intro b3
  refine doL_alloc 4 ze23 rfl rfl rfl ?_; intro b4
  refine doL_nil ?_
  refine post_then ?_
  refine doC_seq ?_
  refine doC_seq ?_
  refine doC_region ?_
  refine doL_v (opV_loadA 2 ty23 rfl rfl rfl) rfl rfl rfl ?_
  refine doL_v (opV_loadA 3 ty23 rfl rfl rfl) rfl rfl rfl ?_
  refine doL_vg (F := vB) (opV_call en120 rfl (fun w _ => iValid2 _ _ _ _  w)) rfl rfl rfl ?_; intro r7 hr7
  refine doL_v (opV_not rfl) rfl rfl rfl ?_
  refine doL_nil ?_
  refine post_then ?_
  refine doC_cond rfl (fun hc8 => ?_) (fun hc8 => ?_)
  ·
    refine doC_seq ?_
    refine doC_region ?_
    refine doL_v (opV_build la23 rfl rfl) rfl rfl rfl ?_
    refine doL_store 4 ty23 rfl rfl rfl rfl rfl rfl rfl rfl ?_
    refine doL_nil ?_
    refine post_then ?_
    refine doC_ret ?_
    refine post_then_ret ?_
    refine post_rets (rs := [.cell 4 23]) rfl (resC (resIs_cell 4 rfl rfl ty23 rfl) (resN)) (congrArg (iv) (?_ : ⟨_, _⟩ = Iv.hull (⟨a0, a1⟩ : Iv) (⟨b0, b1⟩ : Iv)))
    subst_vars; first | (simp_all [Iv.hull]; done) | (simp_all [Iv.hull] <;> omega) | grind [Iv.hull]
  ·
    refine doC_skip ?_
    refine post_then ?_
    refine doC_seq ?_
    refine doC_region ?_
    refine doL_v (opV_fieldAddr fa23_0 rfl) rfl rfl rfl ?_
    refine doL_v (opV_load1 2 ty2 rfl rfl rfl) rfl rfl rfl ?_
    refine doL_v (opV_fieldAddr fa23_0 rfl) rfl rfl rfl ?_
    refine doL_v (opV_load1 3 ty2 rfl rfl rfl) rfl rfl rfl ?_
    refine doL_v (opV_min2 rfl rfl) rfl rfl rfl ?_
    refine doL_v (opV_fieldAddr fa23_1 rfl) rfl rfl rfl ?_
    refine doL_v (opV_load1 2 ty2 rfl rfl rfl) rfl rfl rfl ?_
    refine doL_v (opV_fieldAddr fa23_1 rfl) rfl rfl rfl ?_
    refine doL_v (opV_load1 3 ty2 rfl rfl rfl) rfl rfl rfl ?_
    refine doL_v (opV_max2 rfl rfl) rfl rfl rfl ?_
    refine doL_v (opV_build la23 rfl rfl) rfl rfl rfl ?_
    refine doL_store 4 ty23 rfl rfl rfl rfl rfl rfl rfl rfl ?_
    refine doL_nil ?_
    refine post_then ?_
    refine doC_ret ?_
    refine post_rets (rs := [.cell 4 23]) rfl (resC (resIs_cell 4 rfl rfl ty23 rfl) (resN)) (congrArg (iv) (?_ : ⟨_, _⟩ = Iv.hull (⟨a0, a1⟩ : Iv) (⟨b0, b1⟩ : Iv)))
    subst_vars; first | (simp_all [Iv.hull]; done) | (simp_all [Iv.hull] <;> omega) | grind [Iv.hull]
theorem iWidth (a0 a1 : Int) (w : World) : Calls Try.prog 141 [.agg #[.int .i64 a0, .int .i64 a1]].toArray w (Rets (vI (Iv.width (⟨a0, a1⟩ : Iv))) (w)) := by
  refine calls_of_doC (n := 11) Try.func141 rfl rfl rfl ?_
  refine doC_seq ?_
  refine doC_region ?_
  refine doL_box 1 rfl rfl rfl rfl ?_; intro b1
  refine doL_v (opV_assign rfl) rfl rfl rfl ?_
  refine doL_nil ?_
  refine post_then ?_
  refine doC_seq ?_
  refine doC_seq ?_
  refine doC_region ?_
  refine doL_v (opV_loadA 1 ty23 rfl rfl rfl) rfl rfl rfl ?_
  refine doL_vg (F := vB) (opV_call en75 rfl (fun w _ => iValid _ _  w)) rfl rfl rfl ?_; intro r4 hr4
  refine doL_v (opV_not rfl) rfl rfl rfl ?_
  refine doL_nil ?_
  refine post_then ?_
  refine doC_cond rfl (fun hc5 => ?_) (fun hc5 => ?_)
  ·
    refine doC_seq ?_
    refine doC_region ?_
    refine doL_v (opV_assign rfl) rfl rfl rfl ?_
    refine doL_nil ?_
    refine post_then ?_
    refine doC_ret ?_
    refine post_then_ret ?_
    refine post_rets (rs := [.tmp 2]) rfl (resC (resIs_tmp rfl) (resN)) (congrArg (vI) (?_ : _ = Iv.width (⟨a0, a1⟩ : Iv)))
    subst_vars; first | (simp_all [Iv.width]; done) | (simp_all [Iv.width] <;> omega) | grind [Iv.width]
  ·
    refine doC_skip ?_
    refine post_then ?_
    refine doC_seq ?_
    have ha := valid_mk (hr4.symm.trans (by simpa using hc5))
    refine doC_region ?_
    refine doL_v (opV_fieldAddr fa23_1 rfl) rfl rfl rfl ?_
    refine doL_v (opV_load1 1 ty2 rfl rfl rfl) rfl rfl rfl ?_
    refine doL_v (opV_fieldAddr fa23_0 rfl) rfl rfl rfl ?_
    refine doL_v (opV_load1 1 ty2 rfl rfl rfl) rfl rfl rfl ?_
    refine doL_v (opV_sub rfl rfl (by first | exact i64_in ⟨by omega, by omega⟩ | rfl)) rfl rfl rfl ?_
    refine doL_v (opV_assign rfl) rfl rfl rfl ?_
    refine doL_nil ?_
    refine post_then ?_
    refine doC_ret ?_
    refine post_rets (rs := [.tmp 2]) rfl (resC (resIs_tmp rfl) (resN)) (congrArg (vI) (?_ : _ = Iv.width (⟨a0, a1⟩ : Iv)))
    subst_vars; first | (simp_all [Iv.width]; done) | (simp_all [Iv.width] <;> omega) | grind [Iv.width]
theorem iHas (a0 a1 : Int) (x : Int) (w : World) : Calls Try.prog 161 [.agg #[.int .i64 a0, .int .i64 a1], .int .i64 x].toArray w (Rets (vB (Iv.has (⟨a0, a1⟩ : Iv) x)) (w)) := by
  refine calls_of_doC (n := 19) Try.func161 rfl rfl rfl ?_
  refine doC_seq ?_
  refine doC_region ?_
  refine doL_box 2 rfl rfl rfl rfl ?_; intro b2
  refine doL_v (opV_assign rfl) rfl rfl rfl ?_
  refine doL_nil ?_
  refine post_then ?_
  refine doC_seq ?_
  refine doC_region ?_
  refine doL_v (opV_loadA 2 ty23 rfl rfl rfl) rfl rfl rfl ?_
  refine doL_vg (F := vB) (opV_call en75 rfl (fun w _ => iValid _ _  w)) rfl rfl rfl ?_; intro r6 hr6
  refine doL_v (opV_move rfl) rfl rfl rfl ?_
  refine doL_split 7 rfl (fun hg7 => ?_) (fun hg7 => ?_)
  ·
    refine doL_v (opV_fieldAddr fa23_0 rfl) rfl rfl rfl ?_
    refine doL_v (opV_load1 2 ty2 rfl rfl rfl) rfl rfl rfl ?_
    refine doL_v (opV_move rfl) rfl rfl rfl ?_
    refine doL_v (opV_leq rfl rfl) rfl rfl rfl ?_
    refine doL_v (opV_pick_t rfl rfl rfl rfl) rfl rfl rfl ?_
    refine doL_v (opV_move rfl) rfl rfl rfl ?_
    refine doL_split 13 rfl (fun hg13 => ?_) (fun hg13 => ?_)
    ·
      refine doL_v (opV_move rfl) rfl rfl rfl ?_
      refine doL_v (opV_fieldAddr fa23_1 rfl) rfl rfl rfl ?_
      refine doL_v (opV_load1 2 ty2 rfl rfl rfl) rfl rfl rfl ?_
      refine doL_v (opV_leq rfl rfl) rfl rfl rfl ?_
      refine doL_v (opV_pick_t rfl rfl rfl rfl) rfl rfl rfl ?_
      refine doL_v (opV_assign rfl) rfl rfl rfl ?_
      refine doL_nil ?_
      refine post_then ?_
      refine doC_ret ?_
      refine post_rets (rs := [.tmp 4]) rfl (resC (resIs_tmp rfl) (resN)) (congrArg (vB) (?_ : _ = Iv.has (⟨a0, a1⟩ : Iv) x))
      subst_vars; first | (simp_all [Iv.has]; done) | (simp_all [Iv.has] <;> omega) | grind [Iv.has]
    ·
      refine doL_skip rfl rfl rfl ?_
      refine doL_skip rfl rfl rfl ?_
      refine doL_skip rfl rfl rfl ?_
      refine doL_skip rfl rfl rfl ?_
      refine doL_v (opV_pick_f rfl rfl rfl rfl) rfl rfl rfl ?_
      refine doL_v (opV_assign rfl) rfl rfl rfl ?_
      refine doL_nil ?_
      refine post_then ?_
      refine doC_ret ?_
      refine post_rets (rs := [.tmp 4]) rfl (resC (resIs_tmp rfl) (resN)) (congrArg (vB) (?_ : _ = Iv.has (⟨a0, a1⟩ : Iv) x))
      subst_vars; first | (simp_all [Iv.has]; done) | (simp_all [Iv.has] <;> omega) | grind [Iv.has]
  ·
    refine doL_skip rfl rfl rfl ?_
    refine doL_skip rfl rfl rfl ?_
    refine doL_skip rfl rfl rfl ?_
    refine doL_skip rfl rfl rfl ?_
    refine doL_v (opV_pick_f rfl rfl rfl rfl) rfl rfl rfl ?_
    refine doL_v (opV_move rfl) rfl rfl rfl ?_
    refine doL_skip rfl rfl rfl ?_
    refine doL_skip rfl rfl rfl ?_
    refine doL_skip rfl rfl rfl ?_
    refine doL_skip rfl rfl rfl ?_
    refine doL_v (opV_pick_f rfl rfl rfl rfl) rfl rfl rfl ?_
    refine doL_v (opV_assign rfl) rfl rfl rfl ?_
    refine doL_nil ?_
    refine post_then ?_
    refine doC_ret ?_
    refine post_rets (rs := [.tmp 4]) rfl (resC (resIs_tmp rfl) (resN)) (congrArg (vB) (?_ : _ = Iv.has (⟨a0, a1⟩ : Iv) x))
    subst_vars; first | (simp_all [Iv.has]; done) | (simp_all [Iv.has] <;> omega) | grind [Iv.has]
theorem rMul (a0 a1 : Int) (b0 b1 : Int) (w : World) : Calls Try.prog 125 [.agg #[.int .i64 a0, .int .i64 a1], .agg #[.int .i64 b0, .int .i64 b1]].toArray w (Rets (iv (Iv.mul (⟨a0, a1⟩ : Iv) (⟨b0, b1⟩ : Iv))) (w)) := by
  refine calls_of_doC (n := 51) Try.func125 rfl rfl rfl ?_
  refine doC_seq ?_
  refine doC_region ?_
  refine doL_box 2 rfl rfl rfl rfl ?_; intro b2
  refine doL_box 3 rfl rfl rfl rfl ?_; intro b3
  refine doL_alloc 4 ze23 rfl rfl rfl ?_; intro b4
  refine doL_nil ?_
  refine post_then ?_
  refine doC_seq ?_
  refine doC_seq ?_
  refine doC_region ?_
  refine doL_v (opV_loadA 2 ty23 rfl rfl rfl) rfl rfl rfl ?_
  refine doL_vg (F := vB) (opV_call en80 rfl (fun w _ => rValid _ _  w)) rfl rfl rfl ?_; intro r10 hr10
  refine doL_v (opV_not rfl) rfl rfl rfl ?_
  refine doL_v (opV_move rfl) rfl rfl rfl ?_
  refine doL_split 12 rfl (fun hg12 => ?_) (fun hg12 => ?_)
  ·
    refine doL_skip rfl rfl rfl ?_
    refine doL_skip rfl rfl rfl ?_
    refine doL_skip rfl rfl rfl ?_
    refine doL_v (opV_pick_t rfl rfl rfl rfl) rfl rfl rfl ?_
    refine doL_nil ?_
    refine post_then ?_
    refine doC_cond_t rfl (rfl) ?_
    refine doC_seq ?_
    refine doC_region ?_
    refine doL_v (opV_build la23 rfl rfl) rfl rfl rfl ?_
    refine doL_store 4 ty23 rfl rfl rfl rfl rfl rfl rfl rfl ?_
    refine doL_nil ?_
    refine post_then ?_
    refine doC_ret ?_
    refine post_then_ret ?_
    refine post_rets (rs := [.cell 4 23]) rfl (resC (resIs_cell 4 rfl rfl ty23 rfl) (resN)) (congrArg (iv) (?_ : ⟨_, _⟩ = Iv.mul (⟨a0, a1⟩ : Iv) (⟨b0, b1⟩ : Iv)))
    subst_vars; first | (simp_all [Iv.mul, Iv.limited, min4, max4]; done) | (simp_all [Iv.mul, Iv.limited, min4, max4] <;> omega) | grind [Iv.mul, Iv.limited, min4, max4]
  ·
    refine doL_v (opV_loadA 3 ty23 rfl rfl rfl) rfl rfl rfl ?_
    refine doL_vg (F := vB) (opV_call en80 rfl (fun w _ => rValid _ _  w)) rfl rfl rfl ?_; intro r14 hr14
    refine doL_v (opV_not rfl) rfl rfl rfl ?_
    refine doL_v (opV_pick_f rfl rfl rfl rfl) rfl rfl rfl ?_
    refine doL_nil ?_
    refine post_then ?_
    refine doC_cond rfl (fun hc16 => ?_) (fun hc16 => ?_)
    ·
      refine doC_seq ?_
      refine doC_region ?_
      refine doL_v (opV_build la23 rfl rfl) rfl rfl rfl ?_
      refine doL_store 4 ty23 rfl rfl rfl rfl rfl rfl rfl rfl ?_
      refine doL_nil ?_
      refine post_then ?_
      refine doC_ret ?_
      refine post_then_ret ?_
      refine post_rets (rs := [.cell 4 23]) rfl (resC (resIs_cell 4 rfl rfl ty23 rfl) (resN)) (congrArg (iv) (?_ : ⟨_, _⟩ = Iv.mul (⟨a0, a1⟩ : Iv) (⟨b0, b1⟩ : Iv)))
      subst_vars; first | (simp_all [Iv.mul, Iv.limited, min4, max4]; done) | (simp_all [Iv.mul, Iv.limited, min4, max4] <;> omega) | grind [Iv.mul, Iv.limited, min4, max4]
    ·
      refine doC_skip ?_
      refine post_then ?_
      refine doC_seq ?_
      have ha := valid_mk (hr10.symm.trans (by simpa using hg12))
      have hb := valid_mk (hr14.symm.trans (by simpa using hc16))
      have m1 := mul_bnd (a := a0) (b := b0) (by omega) (by omega)
      have m2 := mul_bnd (a := a0) (b := b1) (by omega) (by omega)
      have m3 := mul_bnd (a := a1) (b := b0) (by omega) (by omega)
      have m4 := mul_bnd (a := a1) (b := b1) (by omega) (by omega)
      refine doC_drawn 23 mo (by kernel_rfl) ?_
      simp only [List.take_succ_cons, List.take_zero, List.drop_succ_cons, List.drop_zero]
      refine doG_v (opV_fieldAddr fa23_0 rfl) rfl rfl rfl ?_
      refine doG_v (opV_load1 2 ty2 rfl rfl rfl) rfl rfl rfl ?_
      refine doG_v (opV_fieldAddr fa23_0 rfl) rfl rfl rfl ?_
      refine doG_v (opV_load1 3 ty2 rfl rfl rfl) rfl rfl rfl ?_
      refine doG_v (opV_mul rfl rfl (by first | exact i64_in ⟨by omega, by omega⟩ | rfl)) rfl rfl rfl ?_
      refine doG_v (opV_fieldAddr fa23_0 rfl) rfl rfl rfl ?_
      refine doG_v (opV_load1 2 ty2 rfl rfl rfl) rfl rfl rfl ?_
      refine doG_v (opV_fieldAddr fa23_1 rfl) rfl rfl rfl ?_
      refine doG_v (opV_load1 3 ty2 rfl rfl rfl) rfl rfl rfl ?_
      refine doG_v (opV_mul rfl rfl (by first | exact i64_in ⟨by omega, by omega⟩ | rfl)) rfl rfl rfl ?_
      refine doG_v (opV_fieldAddr fa23_1 rfl) rfl rfl rfl ?_
      refine doG_v (opV_load1 2 ty2 rfl rfl rfl) rfl rfl rfl ?_
      refine doG_v (opV_fieldAddr fa23_0 rfl) rfl rfl rfl ?_
      refine doG_v (opV_load1 3 ty2 rfl rfl rfl) rfl rfl rfl ?_
      refine doG_v (opV_mul rfl rfl (by first | exact i64_in ⟨by omega, by omega⟩ | rfl)) rfl rfl rfl ?_
      refine doG_v (opV_fieldAddr fa23_1 rfl) rfl rfl rfl ?_
      refine doG_v (opV_load1 2 ty2 rfl rfl rfl) rfl rfl rfl ?_
      refine doG_v (opV_fieldAddr fa23_1 rfl) rfl rfl rfl ?_
      refine doG_v (opV_load1 3 ty2 rfl rfl rfl) rfl rfl rfl ?_
      refine doG_v (opV_mul rfl rfl (by first | exact i64_in ⟨by omega, by omega⟩ | rfl)) rfl rfl rfl ?_
      refine doG_v (opV_assign rfl) rfl rfl rfl ?_
      refine doG_v (opV_assign rfl) rfl rfl rfl ?_
      refine doG_v (opV_assign rfl) rfl rfl rfl ?_
      refine doG_nil ?_
      refine tail_nil ?_
      refine doL_v (opV_assign rfl) rfl rfl rfl ?_
      refine doL_nil ?_
      refine post_then ?_
      refine doC_seq ?_
      refine doC_region ?_
      refine doL_v (opV_move rfl) rfl rfl rfl ?_
      refine doL_v (opV_move rfl) rfl rfl rfl ?_
      refine doL_v (opV_move rfl) rfl rfl rfl ?_
      refine doL_v (opV_move rfl) rfl rfl rfl ?_
      refine doL_v (opV_min4 rfl rfl rfl rfl) rfl rfl rfl ?_
      refine doL_vg (F := vI) (opV_call en123 rfl (fun w _ => rFloor _ _ (by unfold In64; omega) (by omega) w)) rfl rfl rfl ?_; intro r43 hr43
      refine doL_v (opV_move rfl) rfl rfl rfl ?_
      refine doL_v (opV_move rfl) rfl rfl rfl ?_
      refine doL_v (opV_move rfl) rfl rfl rfl ?_
      refine doL_v (opV_move rfl) rfl rfl rfl ?_
      refine doL_v (opV_max4 rfl rfl rfl rfl) rfl rfl rfl ?_
      refine doL_vg (F := vI) (opV_call en124 rfl (fun w _ => rCeil _ _ (by unfold In64; omega) (by omega) w)) rfl rfl rfl ?_; intro r49 hr49
      refine doL_vg (F := iv) (opV_call en122 rfl (fun w _ => rLimited _ _  w)) rfl rfl rfl ?_; intro r50 hr50
      refine doL_store 4 ty23 rfl rfl rfl rfl rfl rfl rfl rfl ?_
      refine doL_nil ?_
      refine post_then ?_
      refine doC_ret ?_
      refine post_rets (rs := [.cell 4 23]) rfl (resC (resIs_cell 4 rfl rfl ty23 rfl) (resN)) (congrArg (iv) (?_ : ⟨_, _⟩ = Iv.mul (⟨a0, a1⟩ : Iv) (⟨b0, b1⟩ : Iv)))
      subst_vars; first | (simp_all [Iv.mul, Iv.limited, min4, max4]; done) | (simp_all [Iv.mul, Iv.limited, min4, max4] <;> omega) | grind [Iv.mul, Iv.limited, min4, max4]
end Go.Proofs.Ytonampcmhhhffaa

/- Plain laws of poses: motions; a motion and its inverse; chains; parts. No condition. -/
import Derived.Test.YtonampcmhhhffaaPoseLaw
namespace Go.Sx
theorem Dg.orth {P E : Int} {B : RM} (h : Dg P E B) (hE : 0 ≤ E) : Orth P E B := by
  have h1 := h.x; have h2 := h.y; have h3 := h.z; have h4 := h.xy; have h5 := h.xz; have h6 := h.yz
  exact ⟨by omega, by omega, by omega, by omega, by omega, by omega⟩
theorem rot_unit : Rot M3.unit 1 0 ⟨⟨65536, 0, 0⟩, ⟨0, 65536, 0⟩, ⟨0, 0, 65536⟩⟩ := by
  have o1 : In iv1 1 65536 := ⟨by decide, by decide⟩
  have z1 := zero_In 1
  refine ⟨by decide, unit_MLm.ok, ⟨⟨o1, z1, z1⟩, ⟨z1, o1, z1⟩, ⟨z1, z1, o1⟩⟩, ⟨by decide, by decide, by decide, by decide, by decide, by decide⟩, ⟨by decide, by decide, by decide, by decide, by decide, by decide⟩, fun a => ?_, fun a => ?_, by decide, by decide⟩
  · apply Int.le_of_eq; simp only [RM.app, RM.tr, R3.dot]; grind
  · apply Int.le_of_eq; simp only [RM.app, R3.dot]; grind
theorem rot_turn {k n : Int} {a : Iv} (hk : 0 ≤ k ∧ k < 3) (v : Ok a) (hn : a.lo ≤ n ∧ n ≤ a.hi) : Rot (M3.turn k a) (5192296858534827628530496329220096 : Int) (2 * (1099511627776 : Int) * (340282366920938463463374607431768211456 : Int)) (TR k n) := by
  have h : k = 0 ∨ k = 1 ∨ k = 2 := by omega
  have d := TR_Dg k n
  refine ⟨by decide, turn_Ok v h, turn_In v hn h, d.1.orth (by decide), d.2.orth (by decide), fun b => (tr_self (Q := 0) d.1 b (by decide) (by decide)).1, fun b => (tr_self (Q := 0) d.2 b (by decide) (by decide)).1, by decide, by decide⟩
theorem mul_app (A B : RM) (a : R3) : (RM.mul A B).app a = A.app (B.app a) := by
  simp only [RM.mul, RM.tr, RM.app, R3.dot, R3.mk.injEq]
  refine ⟨?_, ?_, ?_⟩ <;> grind
theorem rot_turn2 {k n l m : Int} {a b : Iv} (hk : 0 ≤ k ∧ k < 3) (v : Ok a) (hn : a.lo ≤ n ∧ n ≤ a.hi) (hl : 0 ≤ l ∧ l < 3) (v' : Ok b) (hm : b.lo ≤ m ∧ m ≤ b.hi) :
    Rot (M3.mul (M3.turn k a) (M3.turn l b)) (65536 * ((5192296858534827628530496329220096 : Int) * (5192296858534827628530496329220096 : Int))) (2 * (2 * (1099511627776 : Int) * (340282366920938463463374607431768211456 : Int) * ((340282366920938463463374607431768211456 : Int) * (340282366920938463463374607431768211456 : Int)))) (RM.mul (TR k n) (TR l m)) := by
  have h : k = 0 ∨ k = 1 ∨ k = 2 := by omega
  have h' : l = 0 ∨ l = 1 ∨ l = 2 := by omega
  have d := TR_Dg k n
  have e := TR_Dg l m
  have o := orth_mul d.1 e.1 (by decide) (by decide)
  have o' : Orth ((340282366920938463463374607431768211456 : Int) * (340282366920938463463374607431768211456 : Int) * ((340282366920938463463374607431768211456 : Int) * (340282366920938463463374607431768211456 : Int))) (2 * (2 * (1099511627776 : Int) * (340282366920938463463374607431768211456 : Int) * ((340282366920938463463374607431768211456 : Int) * (340282366920938463463374607431768211456 : Int)))) (RM.mul (TR k n) (TR l m)).tr := by
    rw [mul_tr]
    exact orth_mul e.2 d.2 (by decide) (by decide)
  have two : ∀ {x y z : Int}, x ≤ (340282366920938463463374607431768211456 : Int) * (340282366920938463463374607431768211456 : Int) * y → y ≤ (340282366920938463463374607431768211456 : Int) * (340282366920938463463374607431768211456 : Int) * z → x ≤ (340282366920938463463374607431768211456 : Int) * (340282366920938463463374607431768211456 : Int) * ((340282366920938463463374607431768211456 : Int) * (340282366920938463463374607431768211456 : Int)) * z := fun {x y z} h1 h2 => by
    have := Int.mul_le_mul_of_nonneg_left h2 (show (0 : Int) ≤ (340282366920938463463374607431768211456 : Int) * (340282366920938463463374607431768211456 : Int) by decide)
    rw [← Int.mul_assoc] at this
    omega
  refine ⟨by decide, mul_MOk _ _, mul_MIn (turn_Ok v h) (turn_Ok v' h') (by decide) (by decide) (turn_In v hn h) (turn_In v' hm h') TR_b TR_b (by decide) (o.rmb (M := (340282366920938463463374607431768211456 : Int) * (340282366920938463463374607431768211456 : Int)) (by decide)), o, o', fun c => ?_, fun c => ?_, by decide, by decide⟩
  · rw [mul_tr, mul_app]
    exact two (tr_self (Q := 0) e.1 _ (by decide) (by decide)).1 (tr_self (Q := 0) d.1 c (by decide) (by decide)).1
  · rw [mul_app]
    exact two (tr_self (Q := 0) d.2 _ (by decide) (by decide)).1 (tr_self (Q := 0) e.2 c (by decide) (by decide)).1
structure Mot (p : Po) (s T : Int) (X : RM) (z : Z3) : Prop where
  eq : p.t = V3.of z
  rot : Rot p.r s T X
  lim : MLm p.r
  b : RB 196608 z.r
theorem Mot.plm {p : Po} {s T : Int} {X : RM} {z : Z3} (h : Mot p s T X z) : PLm p := ⟨h.lim, by rw [h.eq]; exact of_VOk z⟩
theorem iv_step (L : List Int) (i : Nat) (b : Bool) : Ok ⟨srcS L i 70000, srcS L i 70000 + (bif b then srcR L (i + 1) 4000 else 0)⟩ := by
  have h1 := srcS_bnd L i (k := 70000) (by decide)
  have h2 := srcR_bnd L (i + 1) (k := 4000) (by decide)
  cases b
  · exact ⟨by simp only; omega, by simp only [cond_false]; omega, by simp only [cond_false]; omega⟩
  · exact ⟨by simp only; omega, by simp only [cond_true]; omega, by simp only [cond_true]; omega⟩
theorem motion_Mot (L : List Int) (i : Nat) (b : Bool) : ∃ s T X z, Mot (motion L i b) s T X z := by
  have h1 := srcS_bnd L i (k := 196608) (by decide)
  have h2 := srcS_bnd L (i + 1) (k := 196608) (by decide)
  have h3 := srcS_bnd L (i + 2) (k := 196608) (by decide)
  have rb : RB 196608 (Z3.r ⟨srcS L i 196608, srcS L (i + 1) 196608, srcS L (i + 2) 196608⟩) := ⟨h1, h2, h3⟩
  have k : ∀ j, 0 ≤ srcR L j 3 ∧ srcR L j 3 < 3 := fun j => srcR_bnd L j (by decide)
  have e1 : ∀ j, stepP L j b (motion0 L i) = ⟨M3.turn (srcR L (j + 2) 3) ⟨srcS L j 70000, srcS L j 70000 + (bif b then srcR L (j + 1) 4000 else 0)⟩, V3.of ⟨srcS L i 196608, srcS L (i + 1) 196608, srcS L (i + 2) 196608⟩⟩ := fun j => by
    simp only [stepP, motion0, Po.mul, Po.shift, Po.app, Po.turn, unit_mul (turn_MLm (iv_step L j b) (k (j + 2))), apply_zero unit_MLm.ok, (add_Vzero (of_VOk _)).1]
  have e2 : ∀ j j', stepP L j' b (stepP L j b (motion0 L i)) = ⟨M3.mul (M3.turn (srcR L (j + 2) 3) ⟨srcS L j 70000, srcS L j 70000 + (bif b then srcR L (j + 1) 4000 else 0)⟩) (M3.turn (srcR L (j' + 2) 3) ⟨srcS L j' 70000, srcS L j' 70000 + (bif b then srcR L (j' + 1) 4000 else 0)⟩), V3.of ⟨srcS L i 196608, srcS L (i + 1) 196608, srcS L (i + 2) 196608⟩⟩ := fun j j' => by
    rw [e1 j]
    simp only [stepP, Po.mul, Po.app, Po.turn, apply_zero (turn_MLm (iv_step L j b) (k (j + 2))).ok, (add_Vzero (of_VOk _)).1]
  unfold motion
  split
  · exact ⟨_, _, _, _, rfl, rot_unit, unit_MLm, rb⟩
  · rw [e1]
    exact ⟨_, _, _, _, rfl, rot_turn (k _) (iv_step _ _ _) ⟨Int.le_refl _, (iv_step L (i + 4) b).2.1⟩, turn_MLm (iv_step _ _ _) (k _), rb⟩
  · rw [e2]
    exact ⟨_, _, _, _, rfl, rot_turn2 (k _) (iv_step _ _ _) ⟨Int.le_refl _, (iv_step L (i + 4) b).2.1⟩ (k _) (iv_step _ _ _) ⟨Int.le_refl _, (iv_step L (i + 7) b).2.1⟩, mul_MLm _ _, rb⟩

/-! ### a motion and its inverse -/
theorem pt_In1 {z : Z3} {B : Int} (h : RB B z.r) (hB : B ≤ 2147483648) : VIn (V3.of z) 1 z.r := by
  have h1 := h.x
  have h2 := h.y
  have h3 := h.z
  simp only [Z3.r] at h1 h2 h3
  exact ⟨of_In (by omega), of_In (by omega), of_In (by omega)⟩
theorem Rot.app1 {r : M3} {s T : Int} {X : RM} (h : Rot r s T X) {z : Z3} {C : Int} (hz : RB C z.r) (hC : C ≤ 1000000) : VIn (M3.apply r (V3.of z)) (65536 * s) (X.app z.r) ∧ RB ((3 * C) * (65536 * s)) (X.app z.r) := by
  have := h.app (of_VOk z) (k := 1) (C := C) (by decide) (pt_In1 hz (by omega)) (by rw [Int.mul_one]; exact hz) (by omega)
  rwa [Int.mul_one] at this
theorem Nearly.eq {S T : Int} {u u' : R3} {v : Z3} (h : Nearly S T u v) (e : u = u') : Nearly S T u' v := e ▸ h
theorem inv1 {p : Po} {s T : Int} {X : RM} {z v : Z3} (m : Mot p s T X z) (hv : RB 200000 v.r) : V3.within (V3.of v) (Po.app (Po.inv p) (Po.app p (V3.of v))) = true := by
  have R := m.rot
  have hs := R.pos
  have a1 := R.app1 hv (by decide)
  have hb : RB (796608 * (65536 * s)) ((z.r.scale (65536 * s)).add (X.app v.r)) := RB.add (m.b.scale (by omega)) a1.2 (by decide)
  have a2 := VIn.add (of_VOk z) (apply_VOk _ _) (by omega) (pt_In m.b (by decide) (show 0 ≤ 65536 * s by omega)) a1.1 hb (by decide)
  have a3 := R.tr.app (add_VOk _ _) (show 0 ≤ 65536 * s by omega) a2 hb (by decide)
  have b1 := R.tr.app1 m.b (by decide)
  have b2 := (VIn.neg (apply_VOk _ _) b1.1).scale (show 0 ≤ 65536 * s by omega)
  have bs : RB (3 * 196608 * (65536 * s * (65536 * s))) ((X.tr.app z.r).neg.scale (65536 * s)) := by
    have := b1.2.neg.scale (show 0 ≤ 65536 * s by omega)
    rwa [Int.mul_assoc] at this
  have hq : 0 ≤ 65536 * s * (65536 * s) := sq_nonneg _
  have a4 := VIn.add (VOk.neg (apply_VOk p.r.tr (V3.of z))) (apply_VOk _ _) hq b2 a3.1 (RB.add bs a3.2 rfl) (by decide)
  have n := (xxt R.o' hv).eq (u' := ((X.tr.app z.r).neg.scale (65536 * s)).add (X.tr.app ((z.r.scale (65536 * s)).add (X.app v.r)))) (by
    simp only [R3.add, R3.neg, R3.scale, RM.app, RM.tr, R3.dot, Z3.r, R3.mk.injEq]
    refine ⟨?_, ?_, ?_⟩ <;> grind)
  have sm := R.small
  have t0 := R.t0
  have hS : 0 < 65536 * s * (65536 * s) := Int.mul_pos (by omega) (by omega)
  have := vec_within (add_VOk _ _) a4 hS hv (by decide) n (by omega)
  unfold Po.inv Po.app
  rw [m.eq]
  exact this
theorem Nearly.shift {S T : Int} {u : R3} {v z : Z3} (h : Nearly S T u ⟨v.x - z.x, v.y - z.y, v.z - z.z⟩) : Nearly S T ((z.r.scale S).add u) v := by
  have h1 := h.x; have h2 := h.y; have h3 := h.z
  simp only [Int.sub_mul] at h1 h2 h3
  exact ⟨by simp only [R3.add, R3.scale, Z3.r]; omega, by simp only [R3.add, R3.scale, Z3.r]; omega, by simp only [R3.add, R3.scale, Z3.r]; omega⟩
theorem diff_b {v z : Z3} (hv : RB 200000 v.r) (hz : RB 196608 z.r) : RB 396608 (Z3.r ⟨v.x - z.x, v.y - z.y, v.z - z.z⟩) := by
  have h1 := hv.x; have h2 := hv.y; have h3 := hv.z; have k1 := hz.x; have k2 := hz.y; have k3 := hz.z
  simp only [Z3.r] at *
  exact ⟨by simp only; omega, by simp only; omega, by simp only; omega⟩
theorem inv2 {p : Po} {s T : Int} {X : RM} {z v : Z3} (m : Mot p s T X z) (hv : RB 200000 v.r) : V3.within (V3.of v) (Po.app p (Po.app (Po.inv p) (V3.of v))) = true := by
  have R := m.rot
  have hs := R.pos
  have b1 := R.tr.app1 m.b (by decide)
  have b2 := VIn.neg (apply_VOk _ _) b1.1
  have a1 := R.tr.app1 hv (by decide)
  have hb : RB (1189824 * (65536 * s)) ((X.tr.app z.r).neg.add (X.tr.app v.r)) := RB.add b1.2.neg a1.2 (by decide)
  have a2 := VIn.add (VOk.neg (apply_VOk p.r.tr (V3.of z))) (apply_VOk _ _) (by omega) b2 a1.1 hb (by decide)
  have a3 := R.app (add_VOk _ _) (show 0 ≤ 65536 * s by omega) a2 hb (by decide)
  have hq : 0 ≤ 65536 * s * (65536 * s) := sq_nonneg _
  have a4 := VIn.add (of_VOk z) (apply_VOk _ _) hq (pt_In m.b (by decide) hq) a3.1 (RB.add (m.b.scale hq) a3.2 rfl) (by decide)
  have n := (xxt R.o (diff_b hv m.b)).shift.eq (u' := (z.r.scale (65536 * s * (65536 * s))).add (X.app ((X.tr.app z.r).neg.add (X.tr.app v.r)))) (by
    simp only [R3.add, R3.neg, R3.scale, RM.app, RM.tr, R3.dot, Z3.r, R3.mk.injEq]
    refine ⟨?_, ?_, ?_⟩ <;> grind)
  have sm := R.small
  have t0 := R.t0
  have hS : 0 < 65536 * s * (65536 * s) := Int.mul_pos (by omega) (by omega)
  have := vec_within (add_VOk _ _) a4 hS hv (by decide) n (by omega)
  unfold Po.inv Po.app
  rw [m.eq]
  exact this
theorem inv3 {p : Po} {s T : Int} {X : RM} {z v : Z3} (m : Mot p s T X z) (hv : RB 200000 v.r) : V3.within (V3.of v) (Po.app (Po.mul p (Po.inv p)) (V3.of v)) = true := by
  have R := m.rot
  have hs := R.pos
  have hq : 0 ≤ 65536 * s * (65536 * s) := sq_nonneg _
  have b1 := R.tr.app1 m.b (by decide)
  have b2 := VIn.neg (apply_VOk _ _) b1.1
  have b3 := R.app (VOk.neg (apply_VOk p.r.tr (V3.of z))) (show 0 ≤ 65536 * s by omega) b2 b1.2.neg (by decide)
  have b4 := VIn.add (of_VOk z) (apply_VOk _ _) hq (pt_In m.b (by decide) hq) b3.1 (RB.add (m.b.scale hq) b3.2 rfl) (by decide)
  have sm := R.small
  have t0 := R.t0
  have e : 65536 * (65536 * (s * s)) = 65536 * s * (65536 * s) := by grind
  have r1 := mul_MIn R.ok R.ok.tr (by omega) (by omega) R.isin R.isin.tr R.rmb R.rmb.tr (by decide) (by rw [e]; exact R.o.prod (by omega) t0)
  have rb : RMB (65536 * (65536 * (s * s))) (RM.mul X X.tr) := by rw [e]; exact R.o.prod (by omega) t0
  have hv1 : RB (200000 * 1) v.r := by rw [Int.mul_one]; exact hv
  have c1 := app_In (mul_MOk _ _) (of_VOk v) (Int.mul_nonneg (by decide) (Int.mul_nonneg (by omega) (by omega))) (by decide) r1 (pt_In1 hv (by decide)) rb hv1 (by decide)
  have d : ∀ {u : R3}, RB (65536 * (65536 * (s * s))) u → -(600000 * (65536 * s * (65536 * s))) ≤ R3.dot u v.r ∧ R3.dot u v.r ≤ 600000 * (65536 * s * (65536 * s)) := fun hu => by
    have := rot_dot hu hv1
    have e' : 3 * (65536 * 200000) * (65536 * (s * s) * 1) = 600000 * (65536 * s * (65536 * s)) := by grind
    rwa [e'] at this
  have cb : RB (600000 * (65536 * s * (65536 * s))) ((RM.mul X X.tr).app v.r) := ⟨d rb.x, d rb.y, d rb.z⟩
  rw [show 65536 * (65536 * (s * s) * 1) = 65536 * s * (65536 * s) by grind] at c1
  have a4 := VIn.add (add_VOk _ _) (apply_VOk _ _) hq b4 c1 (RB.add (RB.add (m.b.scale hq) b3.2 rfl) cb rfl) (by decide)
  have n := (xxt R.o (diff_b hv m.b)).shift.eq (u' := ((z.r.scale (65536 * s * (65536 * s))).add (X.app (X.tr.app z.r).neg)).add ((RM.mul X X.tr).app v.r)) (by
    rw [mul_app]
    simp only [R3.add, R3.neg, R3.scale, RM.app, RM.tr, R3.dot, Z3.r, R3.mk.injEq]
    refine ⟨?_, ?_, ?_⟩ <;> grind)
  have hS : 0 < 65536 * s * (65536 * s) := Int.mul_pos (by omega) (by omega)
  have := vec_within (add_VOk _ _) a4 hS hv (by decide) n (by omega)
  unfold Po.mul Po.inv Po.app
  rw [m.eq]
  exact this
theorem inv4 {p : Po} {s T : Int} {X : RM} {z : Z3} (m : Mot p s T X z) : Po.within p (Po.inv (Po.inv p)) = true := by
  have R := m.rot
  have hs := R.pos
  have hq : 0 ≤ 65536 * s * (65536 * s) := sq_nonneg _
  have b1 := R.tr.app1 m.b (by decide)
  have b2 := VIn.neg (apply_VOk _ _) b1.1
  have b3 := R.app (VOk.neg (apply_VOk p.r.tr (V3.of z))) (show 0 ≤ 65536 * s by omega) b2 b1.2.neg (by decide)
  have b4 := VIn.neg (apply_VOk _ _) b3.1
  have n := (xxt R.o m.b).eq (u' := (X.app (X.tr.app z.r).neg).neg) (by
    simp only [R3.neg, RM.app, RM.tr, R3.dot, Z3.r, R3.mk.injEq]
    refine ⟨?_, ?_, ?_⟩ <;> grind)
  have sm := R.small
  have t0 := R.t0
  have hS : 0 < 65536 * s * (65536 * s) := Int.mul_pos (by omega) (by omega)
  have w := vec_within (VOk.neg (apply_VOk _ _)) b4 hS m.b (by decide) n (by omega)
  unfold Po.within Po.inv
  rw [m.eq]
  have e : M3.tr (M3.tr p.r) = p.r := rfl
  simp only [e, (MSub.refl R.ok).within, w, Bool.and_self]

/-! ### chains -/
theorem meet_of {a b : Iv} {S x : Int} (va : Ok a) (vb : Ok b) (hS : 0 < S) (h : In a S x) (k : In b S x) : Iv.meetB a b = true := by
  have h1 : a.lo ≤ b.hi := Int.le_of_mul_le_mul_right (Int.le_trans h.lo k.hi) hS
  have h2 : b.lo ≤ a.hi := Int.le_of_mul_le_mul_right (Int.le_trans k.lo h.hi) hS
  unfold Iv.meetB
  rw [valid_of va, valid_of vb, Bool.true_and, Bool.true_and, decide_eq_true_eq]
  unfold Ok at va vb
  omega
theorem vmeet_of {a b : V3} {S : Int} {x : R3} (va : VOk a) (vb : VOk b) (hS : 0 < S) (h : VIn a S x) (k : VIn b S x) : VMeet a b := ⟨meet_of va.x vb.x hS h.x k.x, meet_of va.y vb.y hS h.y k.y, meet_of va.z vb.z hS h.z k.z⟩
theorem chain_law {p q : Po} {s T s' T' : Int} {X Y : RM} {z y v : Z3} (m : Mot p s T X z) (m' : Mot q s' T' Y y) (hv : RB 200000 v.r) : VMeet (Po.app (Po.mul p q) (V3.of v)) (Po.app p (Po.app q (V3.of v))) := by
  have R := m.rot
  have R' := m'.rot
  have hs := R.pos
  have hs' := R'.pos
  have hq : 0 ≤ 65536 * s * (65536 * s') := Int.mul_nonneg (by omega) (by omega)
  have hS : 0 < 65536 * s * (65536 * s') := Int.mul_pos (by omega) (by omega)
  -- the image of the image
  have a1 := R'.app1 hv (by decide)
  have hb : RB (796608 * (65536 * s')) ((y.r.scale (65536 * s')).add (Y.app v.r)) := RB.add (m'.b.scale (by omega)) a1.2 (by decide)
  have a2 := VIn.add (of_VOk y) (apply_VOk _ _) (by omega) (pt_In m'.b (by decide) (show 0 ≤ 65536 * s' by omega)) a1.1 hb (by decide)
  have a3 := R.app (add_VOk _ _) (show 0 ≤ 65536 * s' by omega) a2 hb (by decide)
  have a4 := VIn.add (of_VOk z) (apply_VOk _ _) hq (pt_In m.b (by decide) hq) a3.1 (RB.add (m.b.scale hq) a3.2 rfl) (by decide)
  -- the image under the composition
  have b1 := R.app1 m'.b (by decide)
  have b2 := VIn.add (of_VOk z) (apply_VOk _ _) (show 0 ≤ 65536 * s by omega) (pt_In m.b (by decide) (show 0 ≤ 65536 * s by omega)) b1.1 (RB.add (m.b.scale (by omega)) b1.2 rfl) (by decide)
  have b3 := b2.scale (show 0 ≤ 65536 * s' by omega)
  have e : 65536 * (65536 * (s * s')) = 65536 * s * (65536 * s') := by grind
  have rb : RMB (65536 * (65536 * (s * s'))) (RM.mul X Y) := by
    rw [e]
    have row : ∀ {u : R3}, R3.dot u u ≤ 65536 * s * (65536 * s) → RB (65536 * s * (65536 * s')) (Y.tr.app u) := fun {u} hu => by
      refine rb_of_dot hq ?_
      have h1 := R'.c u
      have h2 := Int.mul_le_mul_of_nonneg_left hu (sq_nonneg (65536 * s'))
      have e2 : 65536 * s' * (65536 * s') * (65536 * s * (65536 * s)) = 65536 * s * (65536 * s') * (65536 * s * (65536 * s')) := by grind
      omega
    exact ⟨row R.o.x.2, row R.o.y.2, row R.o.z.2⟩
  have r1 := mul_MIn R.ok R'.ok (by omega) (by omega) R.isin R'.isin R.rmb R'.rmb (by decide) rb
  have hv1 : RB (200000 * 1) v.r := by rw [Int.mul_one]; exact hv
  have c1 := app_In (mul_MOk _ _) (of_VOk v) (Int.mul_nonneg (by decide) (Int.mul_nonneg (by omega) (by omega))) (by decide) r1 (pt_In1 hv (by decide)) rb hv1 (by decide)
  have d : ∀ {u : R3}, RB (65536 * (65536 * (s * s'))) u → -(600000 * (65536 * s * (65536 * s'))) ≤ R3.dot u v.r ∧ R3.dot u v.r ≤ 600000 * (65536 * s * (65536 * s')) := fun hu => by
    have := rot_dot hu hv1
    have e' : 3 * (65536 * 200000) * (65536 * (s * s') * 1) = 600000 * (65536 * s * (65536 * s')) := by grind
    rwa [e'] at this
  have cb : RB (600000 * (65536 * s * (65536 * s'))) ((RM.mul X Y).app v.r) := ⟨d rb.x, d rb.y, d rb.z⟩
  rw [show 65536 * (65536 * (s * s') * 1) = 65536 * s * (65536 * s') by grind] at c1
  have tb := (RB.add (m.b.scale (show 0 ≤ 65536 * s by omega)) b1.2 rfl).scale (show 0 ≤ 65536 * s' by omega)
  rw [Int.mul_assoc] at tb
  have b5 := VIn.add (add_VOk _ _) (apply_VOk _ _) hq b3 c1 (RB.add tb cb rfl) (by decide)
  have ev : (((z.r.scale (65536 * s)).add (X.app y.r)).scale (65536 * s')).add ((RM.mul X Y).app v.r) = (z.r.scale (65536 * s * (65536 * s'))).add (X.app ((y.r.scale (65536 * s')).add (Y.app v.r))) := by
    rw [mul_app]
    simp only [R3.add, R3.scale, RM.app, R3.dot, Z3.r, R3.mk.injEq]
    refine ⟨?_, ?_, ?_⟩ <;> grind
  rw [ev] at b5
  unfold Po.mul Po.app
  rw [m.eq, m'.eq]
  exact vmeet_of (add_VOk _ _) (add_VOk _ _) hS b5 a4

/-! ### parts -/
structure PSub (p q : Po) : Prop where
  r : MSub p.r q.r
  t : VSub p.t q.t
theorem PSub.refl {p : Po} (h : PLm p) : PSub p p := ⟨.refl h.r.ok, .refl h.t⟩
theorem PSub.within {p q : Po} (h : PSub p q) : Po.within p q = true := by simp only [Po.within, h.r.within, h.t.within, Bool.and_self]
theorem sub_papp {p q : Po} {u v : V3} (h : PSub p q) (k : VSub u v) : VSub (Po.app p u) (Po.app q v) := sub_Vadd h.t (sub_apply h.r k)
theorem sub_pmul {p q p' q' : Po} (h : PSub p q) (k : PSub p' q') : PSub (Po.mul p p') (Po.mul q q') := ⟨sub_Mmul h.r k.r, sub_papp h k.t⟩
theorem sub_pinv {p q : Po} (h : PSub p q) : PSub (Po.inv p) (Po.inv q) := ⟨h.r.tr, ⟨sub_neg (sub_apply h.r.tr h.t).x, sub_neg (sub_apply h.r.tr h.t).y, sub_neg (sub_apply h.r.tr h.t).z⟩⟩
end Go.Sx

/- Part 14 of the texts behind the last one: rules and contracts. No condition. -/
import Derived.Test.YtnlnbnjnapofmaaGreatST13
namespace Go.Proofs.YtnlnbnjnapofmaaGreat.Pf
open Go.Rx Rt Go.Sx Go.RowKit
open Pd Pe
def okB : List J → List Int → Bool
  | j :: js, x :: xs => decide (j.lo ≤ x) && (decide (x ≤ j.hi) && okB js xs)
  | [], [] => true
  | _, _ => false
def Btw : List Int → List Int → List Int → Prop
  | x :: xs, y :: ys, c :: cs => (min x y ≤ c ∧ c ≤ max x y) ∧ Btw xs ys cs
  | [], [], [] => True
  | _, _, _ => False
def wsum : List J → Int
  | [] => 0
  | j :: js => j.weight + wsum js
theorem flo {a s d : Int} (ha : 0 ≤ a) (hs : 0 ≤ s) (hd : s < d) : 0 ≤ (a * s).tdiv d ∧ (a * s).tdiv d ≤ a ∧ s * a ≤ d * (a * s).tdiv d + d := by
  have h0 : 0 ≤ a * s := Int.mul_nonneg ha hs
  rw [Int.tdiv_eq_ediv_of_nonneg h0]
  have h1 := Int.ediv_nonneg h0 (show 0 ≤ d by omega)
  have h2 : a * s / d ≤ a := Int.ediv_le_of_le_mul (by omega) (Int.mul_le_mul_of_nonneg_left (by omega) ha)
  have h3 := Int.lt_ediv_add_one_mul_self (a * s) (show 0 < d by omega)
  refine ⟨h1, h2, ?_⟩
  rw [Int.mul_comm s a, Int.mul_comm d]
  rw [Int.add_mul, Int.one_mul] at h3
  omega
theorem tw_dn {s d x y : Int} : tw s d x y = x - ((x - y) * s).tdiv d := by
  unfold tw
  rw [show (y - x) * s = -((x - y) * s) by rw [← Int.neg_mul, show -(x - y) = y - x by omega], Int.neg_tdiv]
  omega
theorem tw_c {s d x y : Int} (hs : 0 ≤ s) (hd : s < d) : ∃ f, 0 ≤ f ∧ max (tw s d x y - y) (y - tw s d x y) = max (x - y) (y - x) - f ∧ s * max (x - y) (y - x) ≤ d * f + d ∧ min x y ≤ tw s d x y ∧ tw s d x y ≤ max x y := by
  rcases Int.le_total x y with h | h
  · obtain ⟨a, b, c⟩ := flo (a := y - x) (by omega) hs hd
    refine ⟨((y - x) * s).tdiv d, a, ?_, ?_, ?_, ?_⟩
    · unfold tw; generalize ((y - x) * s).tdiv d = f at *; omega
    · rw [show max (x - y) (y - x) = y - x by omega]; exact c
    · unfold tw; generalize ((y - x) * s).tdiv d = f at *; omega
    · unfold tw; generalize ((y - x) * s).tdiv d = f at *; omega
  · obtain ⟨a, b, c⟩ := flo (a := x - y) (by omega) hs hd
    refine ⟨((x - y) * s).tdiv d, a, ?_, ?_, ?_, ?_⟩
    · rw [tw_dn]; generalize ((x - y) * s).tdiv d = f at *; omega
    · rw [show max (x - y) (y - x) = x - y by omega]; exact c
    · rw [tw_dn]; generalize ((x - y) * s).tdiv d = f at *; omega
    · rw [tw_dn]; generalize ((x - y) * s).tdiv d = f at *; omega
theorem dst_tw {s d : Int} (hs : 0 ≤ s) (hd : s < d) : ∀ (js : List J) (c y : List Int), (∀ j ∈ js, 1 ≤ j.weight) → c.length = js.length → y.length = js.length → ∃ X, dst js (List.zipWith (tw s d) c y) y = dst js c y - X ∧ s * dst js c y ≤ d * (X + wsum js)
  | [], c, y, _, hc, _ => by
    obtain rfl := List.length_eq_zero_iff.1 hc
    exact ⟨0, rfl, by simp [dst, wsum]⟩
  | j :: js, [], y, _, hc, _ => by cases hc
  | j :: js, x :: c, [], _, _, hy => by cases hy
  | j :: js, x :: c, z :: y, hw, hc, hy => by
    obtain ⟨X, e1, e2⟩ := dst_tw hs hd js c y (fun j hj => hw j (List.mem_cons_of_mem _ hj)) (by simpa using hc) (by simpa using hy)
    obtain ⟨f, f0, f1, f2, _⟩ := tw_c (x := x) (y := z) hs hd
    have hw1 := hw j List.mem_cons_self
    refine ⟨j.weight * f + X, ?_, ?_⟩
    · show j.weight * max (tw s d x z - z) (z - tw s d x z) + dst js (List.zipWith (tw s d) c y) y = j.weight * max (x - z) (z - x) + dst js c y - _
      rw [f1, e1, Int.mul_sub]
      omega
    · show s * (j.weight * max (x - z) (z - x) + dst js c y) ≤ d * (j.weight * f + X + (j.weight + wsum js))
      have h1 := Int.mul_le_mul_of_nonneg_left f2 (show 0 ≤ j.weight by omega)
      rw [Int.mul_add, Int.mul_left_comm j.weight d f, Int.mul_comm j.weight d] at h1
      rw [Int.mul_add, Int.mul_left_comm s j.weight, Int.mul_add, Int.mul_add, Int.mul_add]
      rw [Int.mul_add] at e2
      omega
theorem dst_nn : ∀ (js : List J) (c y : List Int), (∀ j ∈ js, 1 ≤ j.weight) → 0 ≤ dst js c y
  | [], c, y, _ => by simp [dst]
  | j :: js, [], y, _ => by simp [dst]
  | j :: js, x :: c, [], _ => by simp [dst]
  | j :: js, x :: c, z :: y, hw => by
    have h := dst_nn js c y (fun j hj => hw j (List.mem_cons_of_mem _ hj))
    have hw1 := hw j List.mem_cons_self
    have := Int.mul_nonneg (show 0 ≤ j.weight by omega) (show 0 ≤ max (x - z) (z - x) by omega)
    simp only [dst]
    omega
theorem dst_self : ∀ (js : List J) (y : List Int), dst js y y = 0
  | [], y => by simp [dst]
  | j :: js, [] => by simp [dst]
  | j :: js, z :: y => by
    simp only [dst, dst_self js y]
    rw [show max (z - z) (z - z) = 0 by omega]
    simp
theorem okB_len : ∀ {js : List J} {c : List Int}, okB js c = true → c.length = js.length
  | [], [], _ => rfl
  | j :: js, x :: c, h => by
    simp only [okB, Bool.and_eq_true] at h
    simp [okB_len h.2.2]
  | [], _ :: _, h => by cases h
  | _ :: _, [], h => by cases h
theorem okB_btw : ∀ {js : List J} {c y v : List Int}, okB js c = true → okB js y = true → Btw c y v → okB js v = true
  | [], [], [], [], _, _, _ => rfl
  | j :: js, x :: c, z :: y, u :: v, h1, h2, h3 => by
    simp only [okB, Bool.and_eq_true, decide_eq_true_eq] at h1 h2 ⊢
    obtain ⟨h3, h4⟩ := h3
    exact ⟨by omega, by omega, okB_btw h1.2.2 h2.2.2 h4⟩
  | [], [], [], _ :: _, _, _, h => h.elim
  | j :: js, x :: c, z :: y, [], _, _, h => h.elim
  | [], _ :: _, _, _, h, _, _ => by cases h
  | _ :: _, [], _, _, h, _, _ => by cases h
  | [], _, _ :: _, _, _, h, _ => by cases h
  | _ :: _, _, [], _, _, h, _ => by cases h
theorem btw_tw {s d : Int} (hs : 0 ≤ s) (hd : s < d) : ∀ (c y : List Int), c.length = y.length → Btw c y (List.zipWith (tw s d) c y)
  | [], [], _ => trivial
  | x :: c, z :: y, h => by
    obtain ⟨f, _, _, _, f3, f4⟩ := tw_c (x := x) (y := z) hs hd
    exact ⟨⟨f3, f4⟩, btw_tw hs hd c y (by simpa using h)⟩
  | [], _ :: _, h => by cases h
  | _ :: _, [], h => by cases h
theorem btw_r : ∀ (c y : List Int), c.length = y.length → Btw c y y
  | [], [], _ => trivial
  | x :: c, z :: y, h => ⟨by omega, btw_r c y (by simpa using h)⟩
  | [], _ :: _, h => by cases h
  | _ :: _, [], h => by cases h
theorem btw_l : ∀ (c y : List Int), c.length = y.length → Btw c y c
  | [], [], _ => trivial
  | x :: c, z :: y, h => ⟨by omega, btw_l c y (by simpa using h)⟩
  | [], _ :: _, h => by cases h
  | _ :: _, [], h => by cases h
theorem btw_t : ∀ {x y c v : List Int}, Btw x y c → Btw c y v → Btw x y v
  | [], [], [], [], _, _ => trivial
  | a :: x, b :: y, e :: c, u :: v, h1, h2 => ⟨by have := h1.1; have := h2.1; omega, btw_t h1.2 h2.2⟩
  | [], [], [], _ :: _, _, h => h.elim
  | _ :: _, _ :: _, _ :: _, [], _, h => h.elim
  | [], _ :: _, _, _, h, _ => h.elim
  | _ :: _, [], _, _, h, _ => h.elim
  | [], [], _ :: _, _, h, _ => h.elim
  | _ :: _, _ :: _, [], _, h, _ => h.elim
theorem nxs_le {s d : Int} (h : d ≤ s) : ∀ (c y : List Int), c.length = y.length → nxs s d c y = y
  | [], [], _ => rfl
  | x :: c, z :: y, hl => by
    have := nxs_le h c y (by simpa using hl)
    unfold nxs at this ⊢
    rw [List.zipWith_cons_cons, this]
    unfold nx1
    rw [if_pos h]
  | [], _ :: _, h => by cases h
  | _ :: _, [], h => by cases h
theorem nxs_gt {s d : Int} (h : ¬ d ≤ s) (c y : List Int) : nxs s d c y = List.zipWith (tw s d) c y := by
  unfold nxs
  congr 1
  funext a b
  unfold nx1
  rw [if_neg h]
section
variable {js : List J} {b : List Int} {s : Int}
theorem nxs_btw (hs : 64 ≤ s) {d : Int} {c : List Int} (hc : c.length = b.length) : Btw c b (nxs s d c b) := by
  by_cases h : d ≤ s
  · rw [nxs_le h c b hc]; exact btw_r c b hc
  · rw [nxs_gt h]; exact btw_tw (by omega) (by omega) c b hc
theorem goes_ex (hw : ∀ j ∈ js, 1 ≤ j.weight) (hs : 64 ≤ s) (hW : wsum js ≤ 12) (hb : okB js b = true) : ∀ (t : Nat) (c : List Int), okB js c = true → dst js c b ≤ s + t * (s - 12) → ∃ k, k ≤ t + 1 ∧ Goes (okB js) (fun c => dst js c b) s b k c
  | t, c, hc, hd => by
    by_cases h0 : dst js c b = 0
    · exact ⟨0, Nat.zero_le _, hc, h0⟩
    have hn := dst_nn js c b hw
    have hl : c.length = b.length := (okB_len hc).trans (okB_len hb).symm
    by_cases hle : dst js c b ≤ s
    · have e := nxs_le hle c b hl
      refine ⟨1, by omega, hc, h0, ?_, ?_⟩
      · show dst js (nxs s (dst js c b) c b) b < dst js c b
        rw [e, dst_self]; omega
      · show okB js (nxs s (dst js c b) c b) = true ∧ dst js (nxs s (dst js c b) c b) b = 0
        rw [e]; exact ⟨hb, dst_self _ _⟩
    · match t with
      | 0 => exfalso; simp at hd; omega
      | t + 1 =>
        have e := nxs_gt hle c b
        obtain ⟨X, e1, e2⟩ := dst_tw (s := s) (d := dst js c b) (by omega) (by omega) js c b hw (okB_len hc) (okB_len hb)
        have h3 : s ≤ X + wsum js := Int.le_of_mul_le_mul_left (by rw [Int.mul_comm] at e2; exact e2) (show 0 < dst js c b by omega)
        have hlt : dst js (nxs s (dst js c b) c b) b ≤ dst js c b - (s - 12) := by rw [e, e1]; omega
        have hok : okB js (nxs s (dst js c b) c b) = true := okB_btw hc hb (nxs_btw hs hl)
        have hm : ((t + 1 : Nat) : Int) * (s - 12) = (t : Int) * (s - 12) + (s - 12) := by
          rw [show ((t + 1 : Nat) : Int) = (t : Int) + 1 by omega, Int.add_mul, Int.one_mul]
        rw [hm] at hd
        obtain ⟨k, hk, hg⟩ := goes_ex hw hs hW hb t (nxs s (dst js c b) c b) hok (by omega)
        exact ⟨k + 1, by omega, hc, h0, by show dst js (nxs s (dst js c b) c b) b < dst js c b; omega, hg⟩
theorem path_btw (hs : 64 ≤ s) (hb : okB js b = true) {a : List Int} : ∀ (k : Nat) (c : List Int), Goes (okB js) (fun c => dst js c b) s b k c → Btw a b c → ∀ v ∈ path (fun c => dst js c b) s b k c, Btw a b v
  | 0, c, _, _, v, hv => by cases hv
  | k + 1, c, hg, hac, v, hv => by
    have hl : c.length = b.length := (okB_len hg.1).trans (okB_len hb).symm
    have h1 : Btw a b (nxs s (dst js c b) c b) := btw_t hac (nxs_btw hs hl)
    rcases List.mem_cons.1 hv with rfl | hv
    · exact h1
    · exact path_btw hs hb k _ hg.2.2.2 h1 v hv
end
end Go.Proofs.YtnlnbnjnapofmaaGreat.Pf
namespace Go.Proofs.YtnlnbnjnapofmaaGreat.Pg
open Go.Rx Rt Go.Sx Go.RowKit
open Ov Ow Pc Pd Pe Pf
def fl1 (z0 : Nat → Int) : Nat → List PV := fun v => [.l [[.n .i64 (z0 v)]]]
def fl2 (z0 z1 : Nat → Int) : Nat → List PV := fun v => [.l [[.n .i64 (z0 v)], [.n .i64 (z1 v)]]]
def fl3 (z0 z1 z2 : Nat → Int) : Nat → List PV := fun v => [.l [[.n .i64 (z0 v)], [.n .i64 (z1 v)], [.n .i64 (z2 v)]]]
def lh (x y : List Int) (m : Nat) (f : Nat → List PV) (i : Int) : St := ⟨[(10, .v (intsP x)), (11, .v (intsP y)), (13, .v (.lf m f)), (15, .v (.n .i64 i))], []⟩
def lo (x y : List Int) (m : Nat) (f : Nat → List PV) (i : Int) : St := ⟨[(53, .v (.b false)), (52, .v (.n .i64 (m : Int))), (51, .v (.lf m f)), (50, .v (.n .i64 i)), (10, .v (intsP x)), (11, .v (intsP y)), (13, .v (.lf m f)), (15, .v (.n .i64 i))], []⟩
noncomputable def o_cf1 (R P1 P2 : PV) (k0 : PV → Int) : List PV → Option (Bool × Ret) := fun ps => match ps with
  | [r, p] => some (gEq (.t [r]) (.t [R]) && (gEq p P1 || gEq p P2), .v (.l [[.n .i64 (k0 p)]]))
  | _ => none
theorem ok_cf1 {R P1 P2 : PV} {k0 : PV → Int} (h1 : SndA1 Tryz.prog 20 [R, P1] (.v (.l [[.n .i64 (k0 P1)]]))) (h2 : SndA1 Tryz.prog 20 [R, P2] (.v (.l [[.n .i64 (k0 P2)]]))) : OneOk Tryz.prog 20 (o_cf1 R P1 P2 k0) := by
  intro ps r hh
  unfold o_cf1 at hh
  split at hh
  · simp only [Option.some.injEq, Prod.mk.injEq, Bool.and_eq_true, Bool.or_eq_true] at hh
    obtain ⟨⟨hg, hb⟩, rfl⟩ := hh
    have := gEq_eq hg
    simp only [PV.t.injEq, List.cons.injEq, and_true] at this
    subst this
    rcases hb with hb | hb
    · obtain rfl := gEq_eq hb
      exact h1
    · obtain rfl := gEq_eq hb
      exact h2
  · cases hh
noncomputable def lq1 (L A B R1 R2 : List (List PV)) (q u D : Int) (m : Nat) (k0 : PV → Int) (z0 : Nat → Int) : OrL := [(10, o_cr [.l L] (.v (.a [.l R1, .l R2]))), (20, o_cf1 (.a [.l R1, .l R2]) (.l A) (.l B) k0), (34, o_cr [.a [.l R1, .l R2], intsP [k0 (.l A)], intsP [k0 (.l B)]] (.v (.n .i64 D))), (16, o_cr [.n .i64 q, .n .i64 9] (.v (.n .i64 u))),
  (33, o_cr [.a [.l R1, .l R2], .l [], intsP [k0 (.l A)], intsP [k0 (.l B)], .n .i64 (IntKind.i64.wrap ((IntKind.i64.wrap (D.tdiv 5)) + (IntKind.i64.wrap (64 * (IntKind.i64.wrap (1 + u)))))), .n .i64 0, .n .i64 200] (.v (.t [.lf m (fl1 z0), .n .i64 1]))), (23, o_cr [] (.v (.b true)))]
set_option maxRecDepth 100000 in
theorem rl1 (G : St → Option (Ret × Mem)) (K : Cont) (L A B R1 R2 : List (List PV)) (q u D : Int) (m : Nat) (k0 : PV → Int) (z0 : Nat → Int) (x0 y0 i : Int) : runCK 300 (cxF T (OrL.k (lq1 L A B R1 R2 q u D m k0 z0)) 300 9 (ntmF T 9)) (ckF T (OrL.k (lq1 L A B R1 R2 q u D m k0 z0)) 300) (loopAt T 9 [0, 1, 0, 1, 1, 1, 1, 1, 1]) (fun e τ => match e with
  | .normal => G (prune ((cxF T (OrL.k (lq1 L A B R1 R2 q u D m k0 z0)) 300 9 (ntmF T 9)).T.hint (cxF T (OrL.k (lq1 L A B R1 R2 q u D m k0 z0)) 300 9 (ntmF T 9)).me (firstR (loopAt T 9 [0, 1, 0, 1, 1, 1, 1, 1, 1]))) τ)
  | e => K e τ) (lh [x0] [y0] m (fl1 z0) i) =
 (bif (decide (i < (m : Int))) then (bif (inB i m) then (bif (decide ((z0 (i).toNat) < (min x0 y0))) then (K .ret ⟨[(8, .v (.b false)), (97, .v (.b true)), (96, .v (.t [])), (95, .v (.t [])), (94, .v (.t [])), (93, .v (.t [])), (92, .v (.t [])), (91, .v (.t [])), (90, .v (.t [])), (89, .v (.t [])), (88, .v (.t [])), (87, .v (.t [])), (86, .v (.t [])), (85, .v (.t [])), (84, .v (.t [])), (83, .v (.t [])), (82, .v (.t [])), (81, .v (.t [])), (80, .v (.t [])), (79, .v (.b true)), (78, .v (.b true)), (77, .v (.n .i64 (min x0 y0))), (76, .v (.n .i64 y0)), (75, .v (.z [[.n .i64 y0]] 0 0)), (74, .v (.n .i64 0)), (73, .v (intsP [y0])), (72, .v (.n .i64 x0)), (71, .v (.z [[.n .i64 x0]] 0 0)), (70, .v (.n .i64 0)), (69, .v (intsP [x0])), (68, .v (.n .i64 (z0 (i).toNat))), (67, .v (.z [[.n .i64 (z0 (i).toNat)]] 0 0)), (66, .v (.n .i64 0)), (65, .v (.l [[.n .i64 (z0 (i).toNat)]])), (64, .v (.zf m (fl1 z0) (i).toNat 0)), (63, .v (.n .i64 i)), (62, .v (.lf m (fl1 z0))), (59, .v (.b true)), (58, .v (.n .i64 1)), (57, .v (intsP [x0])), (56, .v (.n .i64 0)), (10, .v (intsP [x0])), (11, .v (intsP [y0])), (13, .v (.lf m (fl1 z0))), (15, .v (.n .i64 i)), (16, .v (.n .i64 0))], []⟩)
 else (bif (inB i m) then (bif (decide ((max x0 y0) < (z0 (i).toNat))) then (K .ret ⟨[(8, .v (.b false)), (97, .v (.b true)), (96, .v (.b true)), (95, .v (.n .i64 (max x0 y0))), (94, .v (.n .i64 y0)), (93, .v (.z [[.n .i64 y0]] 0 0)), (92, .v (.n .i64 0)), (91, .v (intsP [y0])), (90, .v (.n .i64 x0)), (89, .v (.z [[.n .i64 x0]] 0 0)), (88, .v (.n .i64 0)), (87, .v (intsP [x0])), (86, .v (.n .i64 (z0 (i).toNat))), (85, .v (.z [[.n .i64 (z0 (i).toNat)]] 0 0)), (84, .v (.n .i64 0)), (83, .v (.l [[.n .i64 (z0 (i).toNat)]])), (82, .v (.zf m (fl1 z0) (i).toNat 0)), (81, .v (.n .i64 i)), (80, .v (.lf m (fl1 z0))), (79, .v (.b false)), (78, .v (.b false)), (77, .v (.n .i64 (min x0 y0))), (76, .v (.n .i64 y0)), (75, .v (.z [[.n .i64 y0]] 0 0)), (74, .v (.n .i64 0)), (73, .v (intsP [y0])), (72, .v (.n .i64 x0)), (71, .v (.z [[.n .i64 x0]] 0 0)), (70, .v (.n .i64 0)), (69, .v (intsP [x0])), (68, .v (.n .i64 (z0 (i).toNat))), (67, .v (.z [[.n .i64 (z0 (i).toNat)]] 0 0)), (66, .v (.n .i64 0)), (65, .v (.l [[.n .i64 (z0 (i).toNat)]])), (64, .v (.zf m (fl1 z0) (i).toNat 0)), (63, .v (.n .i64 i)), (62, .v (.lf m (fl1 z0))), (59, .v (.b true)), (58, .v (.n .i64 1)), (57, .v (intsP [x0])), (56, .v (.n .i64 0)), (10, .v (intsP [x0])), (11, .v (intsP [y0])), (13, .v (.lf m (fl1 z0))), (15, .v (.n .i64 i)), (16, .v (.n .i64 0))], []⟩)
 else (G (lh [x0] [y0] m (fl1 z0) (IntKind.i64.wrap (i + 1)))))
 else none))
 else none)
 else (K (.exit 0) (lo [x0] [y0] m (fl1 z0) i))) := by kernel_rfl
theorem lpl1 (K : Cont) (L A B R1 R2 : List (List PV)) (q u D : Int) (m : Nat) (k0 : PV → Int) (z0 : Nat → Int) (x0 y0 : Int) (hb : ∀ v, v < m → (min x0 y0 ≤ z0 v ∧ z0 v ≤ max x0 y0)) (hm : m ≤ 1000) : ∀ (k : Nat) (i : Int) (j : Nat), 0 ≤ i → i + k = m → k < j →
    LF 300 (cxF T (OrL.k (lq1 L A B R1 R2 q u D m k0 z0)) 300 9 (ntmF T 9)) (ckF T (OrL.k (lq1 L A B R1 R2 q u D m k0 z0)) 300) (loopAt T 9 [0, 1, 0, 1, 1, 1, 1, 1, 1]) ((cxF T (OrL.k (lq1 L A B R1 R2 q u D m k0 z0)) 300 9 (ntmF T 9)).T.hint (cxF T (OrL.k (lq1 L A B R1 R2 q u D m k0 z0)) 300 9 (ntmF T 9)).me (firstR (loopAt T 9 [0, 1, 0, 1, 1, 1, 1, 1, 1]))) K j (lh [x0] [y0] m (fl1 z0) i) = K (.exit 0) (lo [x0] [y0] m (fl1 z0) m)
  | 0, i, j + 1, h0, hi, hj => by
    refine (rl1 (fun σ => LF 300 (cxF T (OrL.k (lq1 L A B R1 R2 q u D m k0 z0)) 300 9 (ntmF T 9)) (ckF T (OrL.k (lq1 L A B R1 R2 q u D m k0 z0)) 300) (loopAt T 9 [0, 1, 0, 1, 1, 1, 1, 1, 1]) ((cxF T (OrL.k (lq1 L A B R1 R2 q u D m k0 z0)) 300 9 (ntmF T 9)).T.hint (cxF T (OrL.k (lq1 L A B R1 R2 q u D m k0 z0)) 300 9 (ntmF T 9)).me (firstR (loopAt T 9 [0, 1, 0, 1, 1, 1, 1, 1, 1]))) K j σ) K L A B R1 R2 q u D m k0 z0 x0 y0 i).trans ?_
    rw [decide_eq_false (show ¬ i < (m : Int) by omega), cond_false, show i = (m : Int) by omega]
  | k + 1, i, j + 1, h0, hi, hj => by
    have hv := hb i.toNat (by omega)
    refine (rl1 (fun σ => LF 300 (cxF T (OrL.k (lq1 L A B R1 R2 q u D m k0 z0)) 300 9 (ntmF T 9)) (ckF T (OrL.k (lq1 L A B R1 R2 q u D m k0 z0)) 300) (loopAt T 9 [0, 1, 0, 1, 1, 1, 1, 1, 1]) ((cxF T (OrL.k (lq1 L A B R1 R2 q u D m k0 z0)) 300 9 (ntmF T 9)).T.hint (cxF T (OrL.k (lq1 L A B R1 R2 q u D m k0 z0)) 300 9 (ntmF T 9)).me (firstR (loopAt T 9 [0, 1, 0, 1, 1, 1, 1, 1, 1]))) K j σ) K L A B R1 R2 q u D m k0 z0 x0 y0 i).trans ?_
    have hB : inB i m = true := by unfold inB; rw [decide_eq_true h0, decide_eq_true (show i.toNat < m by omega)]; rfl
    simp only [decide_eq_true (show i < (m : Int) by omega), hB, decide_eq_false (show ¬ z0 i.toNat < min x0 y0 by omega), decide_eq_false (show ¬ max x0 y0 < z0 i.toNat by omega), cond_true, cond_false]
    rw [show IntKind.i64.wrap (i + 1) = i + 1 from zG (by omega)]
    exact lpl1 K L A B R1 R2 q u D m k0 z0 x0 y0 hb hm k (i + 1) j (by omega) (by omega) (by omega)
set_option maxRecDepth 100000 in
theorem pl1 (L A B R1 R2 : List (List PV)) (q u D : Int) (m : Nat) (k0 : PV → Int) (z0 : Nat → Int) : runKL T (OrL.k (lq1 L A B R1 R2 q u D m k0 z0)) (loopsL [([0, 1, 0, 1, 1, 1, 1, 1, 1], sumAt (lh [k0 (.l A)] [k0 (.l B)] m (fl1 z0) 0) (fun K => K (.exit 0) (lo [k0 (.l A)] [k0 (.l B)] m (fl1 z0) m)))]) 300 9 [.l L, .l A, .l B, .n .i64 q] =
 (bif (g1 [.l L]) then (bif (g1 [.a [.l R1, .l R2]] && (gEq (.l A) (.l A) || gEq (.l A) (.l B))) then (bif (g1 [.a [.l R1, .l R2]] && (gEq (.l B) (.l A) || gEq (.l B) (.l B))) then (bif (g1 [.a [.l R1, .l R2], intsP [k0 (.l A)], intsP [k0 (.l B)]]) then (bif (g1 [.n .i64 q, .n .i64 9]) then (bif (g1 [.a [.l R1, .l R2], .l [], intsP [k0 (.l A)], intsP [k0 (.l B)], .n .i64 (IntKind.i64.wrap ((IntKind.i64.wrap (D.tdiv 5)) + (IntKind.i64.wrap (64 * (IntKind.i64.wrap (1 + u)))))), .n .i64 0, .n .i64 200]) then (bif (decide ((m : Int) = 0)) then some (.v (.b false), [])
 else (bif gSt (lh [k0 (.l A)] [k0 (.l B)] m (fl1 z0) 0) (lh [k0 (.l A)] [k0 (.l B)] m (fl1 z0) 0) then (bif g1 [] then some (.v (.b true), []) else none) else none))
 else none)
 else none)
 else none)
 else none)
 else none)
 else none) := by kernel_rfl
theorem snd_str1 {L A B R1 R2 : List (List PV)} {q u D : Int} {m : Nat} {k0 : PV → Int} {z0 : Nat → Int} (hm : 1 ≤ m ∧ m ≤ 250) (hb : ∀ v, v < m → (min (k0 (.l A)) (k0 (.l B)) ≤ z0 v ∧ z0 v ≤ max (k0 (.l A)) (k0 (.l B)))) (h1 : SndA1 Tryz.prog 10 [.l L] (.v (.a [.l R1, .l R2])))
    (h2 : SndA1 Tryz.prog 20 [.a [.l R1, .l R2], .l A] (.v (intsP [k0 (.l A)]))) (h3 : SndA1 Tryz.prog 20 [.a [.l R1, .l R2], .l B] (.v (intsP [k0 (.l B)]))) (h4 : SndA1 Tryz.prog 34 [.a [.l R1, .l R2], intsP [k0 (.l A)], intsP [k0 (.l B)]] (.v (.n .i64 D))) (h5 : SndA1 Tryz.prog 16 [.n .i64 q, .n .i64 9] (.v (.n .i64 u)))
    (h6 : SndA1 Tryz.prog 33 [.a [.l R1, .l R2], .l [], intsP [k0 (.l A)], intsP [k0 (.l B)], .n .i64 (IntKind.i64.wrap ((IntKind.i64.wrap (D.tdiv 5)) + (IntKind.i64.wrap (64 * (IntKind.i64.wrap (1 + u)))))), .n .i64 0, .n .i64 200] (.v (.t [.lf m (fl1 z0), .n .i64 1]))) (h7 : SndA1 Tryz.prog 23 [] (.v (.b true))) : SndA1 Tryz.prog 9 [.l L, .l A, .l B, .n .i64 q] (.v (.b true)) := by
  refine runKL_sound (N := 300) (LO := loopsL [([0, 1, 0, 1, 1, 1, 1, 1, 1], (sumAt (lh [k0 (.l A)] [k0 (.l B)] m (fl1 z0) 0) (fun K => K (.exit 0) (lo [k0 (.l A)] [k0 (.l B)] m (fl1 z0) m))))]) tabOk mixed (OrL.ok (l := lq1 L A B R1 R2 q u D m k0 z0) ⟨ok_cr h1, ok_cf1 h2 h3, ok_cr h4, ok_cr h5, ok_cr h6, ok_cr h7, trivial⟩) (fun p S hp => ?_) ?_
  · refine loopsL_ok (L := loopAt T 9) (l := [([0, 1, 0, 1, 1, 1, 1, 1, 1], (sumAt (lh [k0 (.l A)] [k0 (.l B)] m (fl1 z0) 0) (fun K => K (.exit 0) (lo [k0 (.l A)] [k0 (.l B)] m (fl1 z0) m))))]) (show AllP _ [([0, 1, 0, 1, 1, 1, 1, 1, 1], (sumAt (lh [k0 (.l A)] [k0 (.l B)] m (fl1 z0) 0) (fun K => K (.exit 0) (lo [k0 (.l A)] [k0 (.l B)] m (fl1 z0) m))))] from ⟨sumAt_ok fun K r hr => ?_, trivial⟩) p S hp
    have := lpl1 K L A B R1 R2 q u D m k0 z0 (k0 (.l A)) (k0 (.l B)) hb (by omega) m 0 300 (by omega) (by omega) (by omega)
    exact this.trans hr
  · refine (pl1 L A B R1 R2 q u D m k0 z0).trans ?_
    simp only [g1_t, uY, gSt_self, Bool.true_and, Bool.true_or, Bool.or_true, decide_eq_false (show ¬ (m : Int) = 0 by omega), cond_true, cond_false]
noncomputable def o_cf2 (R P1 P2 : PV) (k0 k1 : PV → Int) : List PV → Option (Bool × Ret) := fun ps => match ps with
  | [r, p] => some (gEq (.t [r]) (.t [R]) && (gEq p P1 || gEq p P2), .v (.l [[.n .i64 (k0 p)], [.n .i64 (k1 p)]]))
  | _ => none
theorem ok_cf2 {R P1 P2 : PV} {k0 k1 : PV → Int} (h1 : SndA1 Tryz.prog 20 [R, P1] (.v (.l [[.n .i64 (k0 P1)], [.n .i64 (k1 P1)]]))) (h2 : SndA1 Tryz.prog 20 [R, P2] (.v (.l [[.n .i64 (k0 P2)], [.n .i64 (k1 P2)]]))) : OneOk Tryz.prog 20 (o_cf2 R P1 P2 k0 k1) := by
  intro ps r hh
  unfold o_cf2 at hh
  split at hh
  · simp only [Option.some.injEq, Prod.mk.injEq, Bool.and_eq_true, Bool.or_eq_true] at hh
    obtain ⟨⟨hg, hb⟩, rfl⟩ := hh
    have := gEq_eq hg
    simp only [PV.t.injEq, List.cons.injEq, and_true] at this
    subst this
    rcases hb with hb | hb
    · obtain rfl := gEq_eq hb
      exact h1
    · obtain rfl := gEq_eq hb
      exact h2
  · cases hh
noncomputable def lq2 (L A B R1 R2 : List (List PV)) (q u D : Int) (m : Nat) (k0 k1 : PV → Int) (z0 z1 : Nat → Int) : OrL := [(10, o_cr [.l L] (.v (.a [.l R1, .l R2]))), (20, o_cf2 (.a [.l R1, .l R2]) (.l A) (.l B) k0 k1), (34, o_cr [.a [.l R1, .l R2], intsP [k0 (.l A), k1 (.l A)], intsP [k0 (.l B), k1 (.l B)]] (.v (.n .i64 D))), (16, o_cr [.n .i64 q, .n .i64 9] (.v (.n .i64 u))),
  (33, o_cr [.a [.l R1, .l R2], .l [], intsP [k0 (.l A), k1 (.l A)], intsP [k0 (.l B), k1 (.l B)], .n .i64 (IntKind.i64.wrap ((IntKind.i64.wrap (D.tdiv 5)) + (IntKind.i64.wrap (64 * (IntKind.i64.wrap (1 + u)))))), .n .i64 0, .n .i64 200] (.v (.t [.lf m (fl2 z0 z1), .n .i64 1]))), (23, o_cr [] (.v (.b true)))]
set_option maxRecDepth 100000 in
theorem rl2 (G : St → Option (Ret × Mem)) (K : Cont) (L A B R1 R2 : List (List PV)) (q u D : Int) (m : Nat) (k0 k1 : PV → Int) (z0 z1 : Nat → Int) (x0 x1 y0 y1 i : Int) : runCK 300 (cxF T (OrL.k (lq2 L A B R1 R2 q u D m k0 k1 z0 z1)) 300 9 (ntmF T 9)) (ckF T (OrL.k (lq2 L A B R1 R2 q u D m k0 k1 z0 z1)) 300) (loopAt T 9 [0, 1, 0, 1, 1, 1, 1, 1, 1]) (fun e τ => match e with
  | .normal => G (prune ((cxF T (OrL.k (lq2 L A B R1 R2 q u D m k0 k1 z0 z1)) 300 9 (ntmF T 9)).T.hint (cxF T (OrL.k (lq2 L A B R1 R2 q u D m k0 k1 z0 z1)) 300 9 (ntmF T 9)).me (firstR (loopAt T 9 [0, 1, 0, 1, 1, 1, 1, 1, 1]))) τ)
  | e => K e τ) (lh [x0, x1] [y0, y1] m (fl2 z0 z1) i) =
 (bif (decide (i < (m : Int))) then (bif (inB i m) then (bif (decide ((z0 (i).toNat) < (min x0 y0))) then (K .ret ⟨[(8, .v (.b false)), (97, .v (.b true)), (96, .v (.t [])), (95, .v (.t [])), (94, .v (.t [])), (93, .v (.t [])), (92, .v (.t [])), (91, .v (.t [])), (90, .v (.t [])), (89, .v (.t [])), (88, .v (.t [])), (87, .v (.t [])), (86, .v (.t [])), (85, .v (.t [])), (84, .v (.t [])), (83, .v (.t [])), (82, .v (.t [])), (81, .v (.t [])), (80, .v (.t [])), (79, .v (.b true)), (78, .v (.b true)), (77, .v (.n .i64 (min x0 y0))), (76, .v (.n .i64 y0)), (75, .v (.z [[.n .i64 y0], [.n .i64 y1]] 0 0)), (74, .v (.n .i64 0)), (73, .v (intsP [y0, y1])), (72, .v (.n .i64 x0)), (71, .v (.z [[.n .i64 x0], [.n .i64 x1]] 0 0)), (70, .v (.n .i64 0)), (69, .v (intsP [x0, x1])), (68, .v (.n .i64 (z0 (i).toNat))), (67, .v (.z [[.n .i64 (z0 (i).toNat)], [.n .i64 (z1 (i).toNat)]] 0 0)), (66, .v (.n .i64 0)), (65, .v (.l [[.n .i64 (z0 (i).toNat)], [.n .i64 (z1 (i).toNat)]])), (64, .v (.zf m (fl2 z0 z1) (i).toNat 0)), (63, .v (.n .i64 i)), (62, .v (.lf m (fl2 z0 z1))), (59, .v (.b true)), (58, .v (.n .i64 2)), (57, .v (intsP [x0, x1])), (56, .v (.n .i64 0)), (10, .v (intsP [x0, x1])), (11, .v (intsP [y0, y1])), (13, .v (.lf m (fl2 z0 z1))), (15, .v (.n .i64 i)), (16, .v (.n .i64 0))], []⟩)
 else (bif (inB i m) then (bif (decide ((max x0 y0) < (z0 (i).toNat))) then (K .ret ⟨[(8, .v (.b false)), (97, .v (.b true)), (96, .v (.b true)), (95, .v (.n .i64 (max x0 y0))), (94, .v (.n .i64 y0)), (93, .v (.z [[.n .i64 y0], [.n .i64 y1]] 0 0)), (92, .v (.n .i64 0)), (91, .v (intsP [y0, y1])), (90, .v (.n .i64 x0)), (89, .v (.z [[.n .i64 x0], [.n .i64 x1]] 0 0)), (88, .v (.n .i64 0)), (87, .v (intsP [x0, x1])), (86, .v (.n .i64 (z0 (i).toNat))), (85, .v (.z [[.n .i64 (z0 (i).toNat)], [.n .i64 (z1 (i).toNat)]] 0 0)), (84, .v (.n .i64 0)), (83, .v (.l [[.n .i64 (z0 (i).toNat)], [.n .i64 (z1 (i).toNat)]])), (82, .v (.zf m (fl2 z0 z1) (i).toNat 0)), (81, .v (.n .i64 i)), (80, .v (.lf m (fl2 z0 z1))), (79, .v (.b false)), (78, .v (.b false)), (77, .v (.n .i64 (min x0 y0))), (76, .v (.n .i64 y0)), (75, .v (.z [[.n .i64 y0], [.n .i64 y1]] 0 0)), (74, .v (.n .i64 0)), (73, .v (intsP [y0, y1])), (72, .v (.n .i64 x0)), (71, .v (.z [[.n .i64 x0], [.n .i64 x1]] 0 0)), (70, .v (.n .i64 0)), (69, .v (intsP [x0, x1])), (68, .v (.n .i64 (z0 (i).toNat))), (67, .v (.z [[.n .i64 (z0 (i).toNat)], [.n .i64 (z1 (i).toNat)]] 0 0)), (66, .v (.n .i64 0)), (65, .v (.l [[.n .i64 (z0 (i).toNat)], [.n .i64 (z1 (i).toNat)]])), (64, .v (.zf m (fl2 z0 z1) (i).toNat 0)), (63, .v (.n .i64 i)), (62, .v (.lf m (fl2 z0 z1))), (59, .v (.b true)), (58, .v (.n .i64 2)), (57, .v (intsP [x0, x1])), (56, .v (.n .i64 0)), (10, .v (intsP [x0, x1])), (11, .v (intsP [y0, y1])), (13, .v (.lf m (fl2 z0 z1))), (15, .v (.n .i64 i)), (16, .v (.n .i64 0))], []⟩)
 else (bif (inB i m) then (bif (decide ((z1 (i).toNat) < (min x1 y1))) then (K .ret ⟨[(8, .v (.b false)), (97, .v (.b true)), (96, .v (.t [])), (95, .v (.t [])), (94, .v (.t [])), (93, .v (.t [])), (92, .v (.t [])), (91, .v (.t [])), (90, .v (.t [])), (89, .v (.t [])), (88, .v (.t [])), (87, .v (.t [])), (86, .v (.t [])), (85, .v (.t [])), (84, .v (.t [])), (83, .v (.t [])), (82, .v (.t [])), (81, .v (.t [])), (80, .v (.t [])), (79, .v (.b true)), (78, .v (.b true)), (77, .v (.n .i64 (min x1 y1))), (76, .v (.n .i64 y1)), (75, .v (.z [[.n .i64 y0], [.n .i64 y1]] 1 0)), (74, .v (.n .i64 1)), (73, .v (intsP [y0, y1])), (72, .v (.n .i64 x1)), (71, .v (.z [[.n .i64 x0], [.n .i64 x1]] 1 0)), (70, .v (.n .i64 1)), (69, .v (intsP [x0, x1])), (68, .v (.n .i64 (z1 (i).toNat))), (67, .v (.z [[.n .i64 (z0 (i).toNat)], [.n .i64 (z1 (i).toNat)]] 1 0)), (66, .v (.n .i64 1)), (65, .v (.l [[.n .i64 (z0 (i).toNat)], [.n .i64 (z1 (i).toNat)]])), (64, .v (.zf m (fl2 z0 z1) (i).toNat 0)), (63, .v (.n .i64 i)), (62, .v (.lf m (fl2 z0 z1))), (59, .v (.b true)), (58, .v (.n .i64 2)), (57, .v (intsP [x0, x1])), (56, .v (.n .i64 1)), (10, .v (intsP [x0, x1])), (11, .v (intsP [y0, y1])), (13, .v (.lf m (fl2 z0 z1))), (15, .v (.n .i64 i)), (16, .v (.n .i64 1))], []⟩)
 else (bif (inB i m) then (bif (decide ((max x1 y1) < (z1 (i).toNat))) then (K .ret ⟨[(8, .v (.b false)), (97, .v (.b true)), (96, .v (.b true)), (95, .v (.n .i64 (max x1 y1))), (94, .v (.n .i64 y1)), (93, .v (.z [[.n .i64 y0], [.n .i64 y1]] 1 0)), (92, .v (.n .i64 1)), (91, .v (intsP [y0, y1])), (90, .v (.n .i64 x1)), (89, .v (.z [[.n .i64 x0], [.n .i64 x1]] 1 0)), (88, .v (.n .i64 1)), (87, .v (intsP [x0, x1])), (86, .v (.n .i64 (z1 (i).toNat))), (85, .v (.z [[.n .i64 (z0 (i).toNat)], [.n .i64 (z1 (i).toNat)]] 1 0)), (84, .v (.n .i64 1)), (83, .v (.l [[.n .i64 (z0 (i).toNat)], [.n .i64 (z1 (i).toNat)]])), (82, .v (.zf m (fl2 z0 z1) (i).toNat 0)), (81, .v (.n .i64 i)), (80, .v (.lf m (fl2 z0 z1))), (79, .v (.b false)), (78, .v (.b false)), (77, .v (.n .i64 (min x1 y1))), (76, .v (.n .i64 y1)), (75, .v (.z [[.n .i64 y0], [.n .i64 y1]] 1 0)), (74, .v (.n .i64 1)), (73, .v (intsP [y0, y1])), (72, .v (.n .i64 x1)), (71, .v (.z [[.n .i64 x0], [.n .i64 x1]] 1 0)), (70, .v (.n .i64 1)), (69, .v (intsP [x0, x1])), (68, .v (.n .i64 (z1 (i).toNat))), (67, .v (.z [[.n .i64 (z0 (i).toNat)], [.n .i64 (z1 (i).toNat)]] 1 0)), (66, .v (.n .i64 1)), (65, .v (.l [[.n .i64 (z0 (i).toNat)], [.n .i64 (z1 (i).toNat)]])), (64, .v (.zf m (fl2 z0 z1) (i).toNat 0)), (63, .v (.n .i64 i)), (62, .v (.lf m (fl2 z0 z1))), (59, .v (.b true)), (58, .v (.n .i64 2)), (57, .v (intsP [x0, x1])), (56, .v (.n .i64 1)), (10, .v (intsP [x0, x1])), (11, .v (intsP [y0, y1])), (13, .v (.lf m (fl2 z0 z1))), (15, .v (.n .i64 i)), (16, .v (.n .i64 1))], []⟩)
 else (G (lh [x0, x1] [y0, y1] m (fl2 z0 z1) (IntKind.i64.wrap (i + 1)))))
 else none))
 else none))
 else none))
 else none)
 else (K (.exit 0) (lo [x0, x1] [y0, y1] m (fl2 z0 z1) i))) := by kernel_rfl
theorem lpl2 (K : Cont) (L A B R1 R2 : List (List PV)) (q u D : Int) (m : Nat) (k0 k1 : PV → Int) (z0 z1 : Nat → Int) (x0 x1 y0 y1 : Int) (hb : ∀ v, v < m → (min x0 y0 ≤ z0 v ∧ z0 v ≤ max x0 y0) ∧ (min x1 y1 ≤ z1 v ∧ z1 v ≤ max x1 y1)) (hm : m ≤ 1000) : ∀ (k : Nat) (i : Int) (j : Nat), 0 ≤ i → i + k = m → k < j →
    LF 300 (cxF T (OrL.k (lq2 L A B R1 R2 q u D m k0 k1 z0 z1)) 300 9 (ntmF T 9)) (ckF T (OrL.k (lq2 L A B R1 R2 q u D m k0 k1 z0 z1)) 300) (loopAt T 9 [0, 1, 0, 1, 1, 1, 1, 1, 1]) ((cxF T (OrL.k (lq2 L A B R1 R2 q u D m k0 k1 z0 z1)) 300 9 (ntmF T 9)).T.hint (cxF T (OrL.k (lq2 L A B R1 R2 q u D m k0 k1 z0 z1)) 300 9 (ntmF T 9)).me (firstR (loopAt T 9 [0, 1, 0, 1, 1, 1, 1, 1, 1]))) K j (lh [x0, x1] [y0, y1] m (fl2 z0 z1) i) = K (.exit 0) (lo [x0, x1] [y0, y1] m (fl2 z0 z1) m)
  | 0, i, j + 1, h0, hi, hj => by
    refine (rl2 (fun σ => LF 300 (cxF T (OrL.k (lq2 L A B R1 R2 q u D m k0 k1 z0 z1)) 300 9 (ntmF T 9)) (ckF T (OrL.k (lq2 L A B R1 R2 q u D m k0 k1 z0 z1)) 300) (loopAt T 9 [0, 1, 0, 1, 1, 1, 1, 1, 1]) ((cxF T (OrL.k (lq2 L A B R1 R2 q u D m k0 k1 z0 z1)) 300 9 (ntmF T 9)).T.hint (cxF T (OrL.k (lq2 L A B R1 R2 q u D m k0 k1 z0 z1)) 300 9 (ntmF T 9)).me (firstR (loopAt T 9 [0, 1, 0, 1, 1, 1, 1, 1, 1]))) K j σ) K L A B R1 R2 q u D m k0 k1 z0 z1 x0 x1 y0 y1 i).trans ?_
    rw [decide_eq_false (show ¬ i < (m : Int) by omega), cond_false, show i = (m : Int) by omega]
  | k + 1, i, j + 1, h0, hi, hj => by
    have hv := hb i.toNat (by omega)
    refine (rl2 (fun σ => LF 300 (cxF T (OrL.k (lq2 L A B R1 R2 q u D m k0 k1 z0 z1)) 300 9 (ntmF T 9)) (ckF T (OrL.k (lq2 L A B R1 R2 q u D m k0 k1 z0 z1)) 300) (loopAt T 9 [0, 1, 0, 1, 1, 1, 1, 1, 1]) ((cxF T (OrL.k (lq2 L A B R1 R2 q u D m k0 k1 z0 z1)) 300 9 (ntmF T 9)).T.hint (cxF T (OrL.k (lq2 L A B R1 R2 q u D m k0 k1 z0 z1)) 300 9 (ntmF T 9)).me (firstR (loopAt T 9 [0, 1, 0, 1, 1, 1, 1, 1, 1]))) K j σ) K L A B R1 R2 q u D m k0 k1 z0 z1 x0 x1 y0 y1 i).trans ?_
    have hB : inB i m = true := by unfold inB; rw [decide_eq_true h0, decide_eq_true (show i.toNat < m by omega)]; rfl
    simp only [decide_eq_true (show i < (m : Int) by omega), hB, decide_eq_false (show ¬ z0 i.toNat < min x0 y0 by omega), decide_eq_false (show ¬ max x0 y0 < z0 i.toNat by omega), decide_eq_false (show ¬ z1 i.toNat < min x1 y1 by omega), decide_eq_false (show ¬ max x1 y1 < z1 i.toNat by omega), cond_true, cond_false]
    rw [show IntKind.i64.wrap (i + 1) = i + 1 from zG (by omega)]
    exact lpl2 K L A B R1 R2 q u D m k0 k1 z0 z1 x0 x1 y0 y1 hb hm k (i + 1) j (by omega) (by omega) (by omega)
set_option maxRecDepth 100000 in
theorem pl2 (L A B R1 R2 : List (List PV)) (q u D : Int) (m : Nat) (k0 k1 : PV → Int) (z0 z1 : Nat → Int) : runKL T (OrL.k (lq2 L A B R1 R2 q u D m k0 k1 z0 z1)) (loopsL [([0, 1, 0, 1, 1, 1, 1, 1, 1], sumAt (lh [k0 (.l A), k1 (.l A)] [k0 (.l B), k1 (.l B)] m (fl2 z0 z1) 0) (fun K => K (.exit 0) (lo [k0 (.l A), k1 (.l A)] [k0 (.l B), k1 (.l B)] m (fl2 z0 z1) m)))]) 300 9 [.l L, .l A, .l B, .n .i64 q] =
 (bif (g1 [.l L]) then (bif (g1 [.a [.l R1, .l R2]] && (gEq (.l A) (.l A) || gEq (.l A) (.l B))) then (bif (g1 [.a [.l R1, .l R2]] && (gEq (.l B) (.l A) || gEq (.l B) (.l B))) then (bif (g1 [.a [.l R1, .l R2], intsP [k0 (.l A), k1 (.l A)], intsP [k0 (.l B), k1 (.l B)]]) then (bif (g1 [.n .i64 q, .n .i64 9]) then (bif (g1 [.a [.l R1, .l R2], .l [], intsP [k0 (.l A), k1 (.l A)], intsP [k0 (.l B), k1 (.l B)], .n .i64 (IntKind.i64.wrap ((IntKind.i64.wrap (D.tdiv 5)) + (IntKind.i64.wrap (64 * (IntKind.i64.wrap (1 + u)))))), .n .i64 0, .n .i64 200]) then (bif (decide ((m : Int) = 0)) then some (.v (.b false), [])
 else (bif gSt (lh [k0 (.l A), k1 (.l A)] [k0 (.l B), k1 (.l B)] m (fl2 z0 z1) 0) (lh [k0 (.l A), k1 (.l A)] [k0 (.l B), k1 (.l B)] m (fl2 z0 z1) 0) then (bif g1 [] then some (.v (.b true), []) else none) else none))
 else none)
 else none)
 else none)
 else none)
 else none)
 else none) := by kernel_rfl
theorem snd_str2 {L A B R1 R2 : List (List PV)} {q u D : Int} {m : Nat} {k0 k1 : PV → Int} {z0 z1 : Nat → Int} (hm : 1 ≤ m ∧ m ≤ 250) (hb : ∀ v, v < m → (min (k0 (.l A)) (k0 (.l B)) ≤ z0 v ∧ z0 v ≤ max (k0 (.l A)) (k0 (.l B))) ∧ (min (k1 (.l A)) (k1 (.l B)) ≤ z1 v ∧ z1 v ≤ max (k1 (.l A)) (k1 (.l B)))) (h1 : SndA1 Tryz.prog 10 [.l L] (.v (.a [.l R1, .l R2])))
    (h2 : SndA1 Tryz.prog 20 [.a [.l R1, .l R2], .l A] (.v (intsP [k0 (.l A), k1 (.l A)]))) (h3 : SndA1 Tryz.prog 20 [.a [.l R1, .l R2], .l B] (.v (intsP [k0 (.l B), k1 (.l B)]))) (h4 : SndA1 Tryz.prog 34 [.a [.l R1, .l R2], intsP [k0 (.l A), k1 (.l A)], intsP [k0 (.l B), k1 (.l B)]] (.v (.n .i64 D))) (h5 : SndA1 Tryz.prog 16 [.n .i64 q, .n .i64 9] (.v (.n .i64 u)))
    (h6 : SndA1 Tryz.prog 33 [.a [.l R1, .l R2], .l [], intsP [k0 (.l A), k1 (.l A)], intsP [k0 (.l B), k1 (.l B)], .n .i64 (IntKind.i64.wrap ((IntKind.i64.wrap (D.tdiv 5)) + (IntKind.i64.wrap (64 * (IntKind.i64.wrap (1 + u)))))), .n .i64 0, .n .i64 200] (.v (.t [.lf m (fl2 z0 z1), .n .i64 1]))) (h7 : SndA1 Tryz.prog 23 [] (.v (.b true))) : SndA1 Tryz.prog 9 [.l L, .l A, .l B, .n .i64 q] (.v (.b true)) := by
  refine runKL_sound (N := 300) (LO := loopsL [([0, 1, 0, 1, 1, 1, 1, 1, 1], (sumAt (lh [k0 (.l A), k1 (.l A)] [k0 (.l B), k1 (.l B)] m (fl2 z0 z1) 0) (fun K => K (.exit 0) (lo [k0 (.l A), k1 (.l A)] [k0 (.l B), k1 (.l B)] m (fl2 z0 z1) m))))]) tabOk mixed (OrL.ok (l := lq2 L A B R1 R2 q u D m k0 k1 z0 z1) ⟨ok_cr h1, ok_cf2 h2 h3, ok_cr h4, ok_cr h5, ok_cr h6, ok_cr h7, trivial⟩) (fun p S hp => ?_) ?_
  · refine loopsL_ok (L := loopAt T 9) (l := [([0, 1, 0, 1, 1, 1, 1, 1, 1], (sumAt (lh [k0 (.l A), k1 (.l A)] [k0 (.l B), k1 (.l B)] m (fl2 z0 z1) 0) (fun K => K (.exit 0) (lo [k0 (.l A), k1 (.l A)] [k0 (.l B), k1 (.l B)] m (fl2 z0 z1) m))))]) (show AllP _ [([0, 1, 0, 1, 1, 1, 1, 1, 1], (sumAt (lh [k0 (.l A), k1 (.l A)] [k0 (.l B), k1 (.l B)] m (fl2 z0 z1) 0) (fun K => K (.exit 0) (lo [k0 (.l A), k1 (.l A)] [k0 (.l B), k1 (.l B)] m (fl2 z0 z1) m))))] from ⟨sumAt_ok fun K r hr => ?_, trivial⟩) p S hp
    have := lpl2 K L A B R1 R2 q u D m k0 k1 z0 z1 (k0 (.l A)) (k1 (.l A)) (k0 (.l B)) (k1 (.l B)) hb (by omega) m 0 300 (by omega) (by omega) (by omega)
    exact this.trans hr
  · refine (pl2 L A B R1 R2 q u D m k0 k1 z0 z1).trans ?_
    simp only [g1_t, uY, gSt_self, Bool.true_and, Bool.true_or, Bool.or_true, decide_eq_false (show ¬ (m : Int) = 0 by omega), cond_true, cond_false]
noncomputable def o_cf3 (R P1 P2 : PV) (k0 k1 k2 : PV → Int) : List PV → Option (Bool × Ret) := fun ps => match ps with
  | [r, p] => some (gEq (.t [r]) (.t [R]) && (gEq p P1 || gEq p P2), .v (.l [[.n .i64 (k0 p)], [.n .i64 (k1 p)], [.n .i64 (k2 p)]]))
  | _ => none
theorem ok_cf3 {R P1 P2 : PV} {k0 k1 k2 : PV → Int} (h1 : SndA1 Tryz.prog 20 [R, P1] (.v (.l [[.n .i64 (k0 P1)], [.n .i64 (k1 P1)], [.n .i64 (k2 P1)]]))) (h2 : SndA1 Tryz.prog 20 [R, P2] (.v (.l [[.n .i64 (k0 P2)], [.n .i64 (k1 P2)], [.n .i64 (k2 P2)]]))) : OneOk Tryz.prog 20 (o_cf3 R P1 P2 k0 k1 k2) := by
  intro ps r hh
  unfold o_cf3 at hh
  split at hh
  · simp only [Option.some.injEq, Prod.mk.injEq, Bool.and_eq_true, Bool.or_eq_true] at hh
    obtain ⟨⟨hg, hb⟩, rfl⟩ := hh
    have := gEq_eq hg
    simp only [PV.t.injEq, List.cons.injEq, and_true] at this
    subst this
    rcases hb with hb | hb
    · obtain rfl := gEq_eq hb
      exact h1
    · obtain rfl := gEq_eq hb
      exact h2
  · cases hh
noncomputable def lq3 (L A B R1 R2 : List (List PV)) (q u D : Int) (m : Nat) (k0 k1 k2 : PV → Int) (z0 z1 z2 : Nat → Int) : OrL := [(10, o_cr [.l L] (.v (.a [.l R1, .l R2]))), (20, o_cf3 (.a [.l R1, .l R2]) (.l A) (.l B) k0 k1 k2), (34, o_cr [.a [.l R1, .l R2], intsP [k0 (.l A), k1 (.l A), k2 (.l A)], intsP [k0 (.l B), k1 (.l B), k2 (.l B)]] (.v (.n .i64 D))), (16, o_cr [.n .i64 q, .n .i64 9] (.v (.n .i64 u))),
  (33, o_cr [.a [.l R1, .l R2], .l [], intsP [k0 (.l A), k1 (.l A), k2 (.l A)], intsP [k0 (.l B), k1 (.l B), k2 (.l B)], .n .i64 (IntKind.i64.wrap ((IntKind.i64.wrap (D.tdiv 5)) + (IntKind.i64.wrap (64 * (IntKind.i64.wrap (1 + u)))))), .n .i64 0, .n .i64 200] (.v (.t [.lf m (fl3 z0 z1 z2), .n .i64 1]))), (23, o_cr [] (.v (.b true)))]
set_option maxRecDepth 100000 in
theorem rl3 (G : St → Option (Ret × Mem)) (K : Cont) (L A B R1 R2 : List (List PV)) (q u D : Int) (m : Nat) (k0 k1 k2 : PV → Int) (z0 z1 z2 : Nat → Int) (x0 x1 x2 y0 y1 y2 i : Int) : runCK 300 (cxF T (OrL.k (lq3 L A B R1 R2 q u D m k0 k1 k2 z0 z1 z2)) 300 9 (ntmF T 9)) (ckF T (OrL.k (lq3 L A B R1 R2 q u D m k0 k1 k2 z0 z1 z2)) 300) (loopAt T 9 [0, 1, 0, 1, 1, 1, 1, 1, 1]) (fun e τ => match e with
  | .normal => G (prune ((cxF T (OrL.k (lq3 L A B R1 R2 q u D m k0 k1 k2 z0 z1 z2)) 300 9 (ntmF T 9)).T.hint (cxF T (OrL.k (lq3 L A B R1 R2 q u D m k0 k1 k2 z0 z1 z2)) 300 9 (ntmF T 9)).me (firstR (loopAt T 9 [0, 1, 0, 1, 1, 1, 1, 1, 1]))) τ)
  | e => K e τ) (lh [x0, x1, x2] [y0, y1, y2] m (fl3 z0 z1 z2) i) =
 (bif (decide (i < (m : Int))) then (bif (inB i m) then (bif (decide ((z0 (i).toNat) < (min x0 y0))) then (K .ret ⟨[(8, .v (.b false)), (97, .v (.b true)), (96, .v (.t [])), (95, .v (.t [])), (94, .v (.t [])), (93, .v (.t [])), (92, .v (.t [])), (91, .v (.t [])), (90, .v (.t [])), (89, .v (.t [])), (88, .v (.t [])), (87, .v (.t [])), (86, .v (.t [])), (85, .v (.t [])), (84, .v (.t [])), (83, .v (.t [])), (82, .v (.t [])), (81, .v (.t [])), (80, .v (.t [])), (79, .v (.b true)), (78, .v (.b true)), (77, .v (.n .i64 (min x0 y0))), (76, .v (.n .i64 y0)), (75, .v (.z [[.n .i64 y0], [.n .i64 y1], [.n .i64 y2]] 0 0)), (74, .v (.n .i64 0)), (73, .v (intsP [y0, y1, y2])), (72, .v (.n .i64 x0)), (71, .v (.z [[.n .i64 x0], [.n .i64 x1], [.n .i64 x2]] 0 0)), (70, .v (.n .i64 0)), (69, .v (intsP [x0, x1, x2])), (68, .v (.n .i64 (z0 (i).toNat))), (67, .v (.z [[.n .i64 (z0 (i).toNat)], [.n .i64 (z1 (i).toNat)], [.n .i64 (z2 (i).toNat)]] 0 0)), (66, .v (.n .i64 0)), (65, .v (.l [[.n .i64 (z0 (i).toNat)], [.n .i64 (z1 (i).toNat)], [.n .i64 (z2 (i).toNat)]])), (64, .v (.zf m (fl3 z0 z1 z2) (i).toNat 0)), (63, .v (.n .i64 i)), (62, .v (.lf m (fl3 z0 z1 z2))), (59, .v (.b true)), (58, .v (.n .i64 3)), (57, .v (intsP [x0, x1, x2])), (56, .v (.n .i64 0)), (10, .v (intsP [x0, x1, x2])), (11, .v (intsP [y0, y1, y2])), (13, .v (.lf m (fl3 z0 z1 z2))), (15, .v (.n .i64 i)), (16, .v (.n .i64 0))], []⟩)
 else (bif (inB i m) then (bif (decide ((max x0 y0) < (z0 (i).toNat))) then (K .ret ⟨[(8, .v (.b false)), (97, .v (.b true)), (96, .v (.b true)), (95, .v (.n .i64 (max x0 y0))), (94, .v (.n .i64 y0)), (93, .v (.z [[.n .i64 y0], [.n .i64 y1], [.n .i64 y2]] 0 0)), (92, .v (.n .i64 0)), (91, .v (intsP [y0, y1, y2])), (90, .v (.n .i64 x0)), (89, .v (.z [[.n .i64 x0], [.n .i64 x1], [.n .i64 x2]] 0 0)), (88, .v (.n .i64 0)), (87, .v (intsP [x0, x1, x2])), (86, .v (.n .i64 (z0 (i).toNat))), (85, .v (.z [[.n .i64 (z0 (i).toNat)], [.n .i64 (z1 (i).toNat)], [.n .i64 (z2 (i).toNat)]] 0 0)), (84, .v (.n .i64 0)), (83, .v (.l [[.n .i64 (z0 (i).toNat)], [.n .i64 (z1 (i).toNat)], [.n .i64 (z2 (i).toNat)]])), (82, .v (.zf m (fl3 z0 z1 z2) (i).toNat 0)), (81, .v (.n .i64 i)), (80, .v (.lf m (fl3 z0 z1 z2))), (79, .v (.b false)), (78, .v (.b false)), (77, .v (.n .i64 (min x0 y0))), (76, .v (.n .i64 y0)), (75, .v (.z [[.n .i64 y0], [.n .i64 y1], [.n .i64 y2]] 0 0)), (74, .v (.n .i64 0)), (73, .v (intsP [y0, y1, y2])), (72, .v (.n .i64 x0)), (71, .v (.z [[.n .i64 x0], [.n .i64 x1], [.n .i64 x2]] 0 0)), (70, .v (.n .i64 0)), (69, .v (intsP [x0, x1, x2])), (68, .v (.n .i64 (z0 (i).toNat))), (67, .v (.z [[.n .i64 (z0 (i).toNat)], [.n .i64 (z1 (i).toNat)], [.n .i64 (z2 (i).toNat)]] 0 0)), (66, .v (.n .i64 0)), (65, .v (.l [[.n .i64 (z0 (i).toNat)], [.n .i64 (z1 (i).toNat)], [.n .i64 (z2 (i).toNat)]])), (64, .v (.zf m (fl3 z0 z1 z2) (i).toNat 0)), (63, .v (.n .i64 i)), (62, .v (.lf m (fl3 z0 z1 z2))), (59, .v (.b true)), (58, .v (.n .i64 3)), (57, .v (intsP [x0, x1, x2])), (56, .v (.n .i64 0)), (10, .v (intsP [x0, x1, x2])), (11, .v (intsP [y0, y1, y2])), (13, .v (.lf m (fl3 z0 z1 z2))), (15, .v (.n .i64 i)), (16, .v (.n .i64 0))], []⟩)
 else (bif (inB i m) then (bif (decide ((z1 (i).toNat) < (min x1 y1))) then (K .ret ⟨[(8, .v (.b false)), (97, .v (.b true)), (96, .v (.t [])), (95, .v (.t [])), (94, .v (.t [])), (93, .v (.t [])), (92, .v (.t [])), (91, .v (.t [])), (90, .v (.t [])), (89, .v (.t [])), (88, .v (.t [])), (87, .v (.t [])), (86, .v (.t [])), (85, .v (.t [])), (84, .v (.t [])), (83, .v (.t [])), (82, .v (.t [])), (81, .v (.t [])), (80, .v (.t [])), (79, .v (.b true)), (78, .v (.b true)), (77, .v (.n .i64 (min x1 y1))), (76, .v (.n .i64 y1)), (75, .v (.z [[.n .i64 y0], [.n .i64 y1], [.n .i64 y2]] 1 0)), (74, .v (.n .i64 1)), (73, .v (intsP [y0, y1, y2])), (72, .v (.n .i64 x1)), (71, .v (.z [[.n .i64 x0], [.n .i64 x1], [.n .i64 x2]] 1 0)), (70, .v (.n .i64 1)), (69, .v (intsP [x0, x1, x2])), (68, .v (.n .i64 (z1 (i).toNat))), (67, .v (.z [[.n .i64 (z0 (i).toNat)], [.n .i64 (z1 (i).toNat)], [.n .i64 (z2 (i).toNat)]] 1 0)), (66, .v (.n .i64 1)), (65, .v (.l [[.n .i64 (z0 (i).toNat)], [.n .i64 (z1 (i).toNat)], [.n .i64 (z2 (i).toNat)]])), (64, .v (.zf m (fl3 z0 z1 z2) (i).toNat 0)), (63, .v (.n .i64 i)), (62, .v (.lf m (fl3 z0 z1 z2))), (59, .v (.b true)), (58, .v (.n .i64 3)), (57, .v (intsP [x0, x1, x2])), (56, .v (.n .i64 1)), (10, .v (intsP [x0, x1, x2])), (11, .v (intsP [y0, y1, y2])), (13, .v (.lf m (fl3 z0 z1 z2))), (15, .v (.n .i64 i)), (16, .v (.n .i64 1))], []⟩)
 else (bif (inB i m) then (bif (decide ((max x1 y1) < (z1 (i).toNat))) then (K .ret ⟨[(8, .v (.b false)), (97, .v (.b true)), (96, .v (.b true)), (95, .v (.n .i64 (max x1 y1))), (94, .v (.n .i64 y1)), (93, .v (.z [[.n .i64 y0], [.n .i64 y1], [.n .i64 y2]] 1 0)), (92, .v (.n .i64 1)), (91, .v (intsP [y0, y1, y2])), (90, .v (.n .i64 x1)), (89, .v (.z [[.n .i64 x0], [.n .i64 x1], [.n .i64 x2]] 1 0)), (88, .v (.n .i64 1)), (87, .v (intsP [x0, x1, x2])), (86, .v (.n .i64 (z1 (i).toNat))), (85, .v (.z [[.n .i64 (z0 (i).toNat)], [.n .i64 (z1 (i).toNat)], [.n .i64 (z2 (i).toNat)]] 1 0)), (84, .v (.n .i64 1)), (83, .v (.l [[.n .i64 (z0 (i).toNat)], [.n .i64 (z1 (i).toNat)], [.n .i64 (z2 (i).toNat)]])), (82, .v (.zf m (fl3 z0 z1 z2) (i).toNat 0)), (81, .v (.n .i64 i)), (80, .v (.lf m (fl3 z0 z1 z2))), (79, .v (.b false)), (78, .v (.b false)), (77, .v (.n .i64 (min x1 y1))), (76, .v (.n .i64 y1)), (75, .v (.z [[.n .i64 y0], [.n .i64 y1], [.n .i64 y2]] 1 0)), (74, .v (.n .i64 1)), (73, .v (intsP [y0, y1, y2])), (72, .v (.n .i64 x1)), (71, .v (.z [[.n .i64 x0], [.n .i64 x1], [.n .i64 x2]] 1 0)), (70, .v (.n .i64 1)), (69, .v (intsP [x0, x1, x2])), (68, .v (.n .i64 (z1 (i).toNat))), (67, .v (.z [[.n .i64 (z0 (i).toNat)], [.n .i64 (z1 (i).toNat)], [.n .i64 (z2 (i).toNat)]] 1 0)), (66, .v (.n .i64 1)), (65, .v (.l [[.n .i64 (z0 (i).toNat)], [.n .i64 (z1 (i).toNat)], [.n .i64 (z2 (i).toNat)]])), (64, .v (.zf m (fl3 z0 z1 z2) (i).toNat 0)), (63, .v (.n .i64 i)), (62, .v (.lf m (fl3 z0 z1 z2))), (59, .v (.b true)), (58, .v (.n .i64 3)), (57, .v (intsP [x0, x1, x2])), (56, .v (.n .i64 1)), (10, .v (intsP [x0, x1, x2])), (11, .v (intsP [y0, y1, y2])), (13, .v (.lf m (fl3 z0 z1 z2))), (15, .v (.n .i64 i)), (16, .v (.n .i64 1))], []⟩)
 else (bif (inB i m) then (bif (decide ((z2 (i).toNat) < (min x2 y2))) then (K .ret ⟨[(8, .v (.b false)), (97, .v (.b true)), (96, .v (.t [])), (95, .v (.t [])), (94, .v (.t [])), (93, .v (.t [])), (92, .v (.t [])), (91, .v (.t [])), (90, .v (.t [])), (89, .v (.t [])), (88, .v (.t [])), (87, .v (.t [])), (86, .v (.t [])), (85, .v (.t [])), (84, .v (.t [])), (83, .v (.t [])), (82, .v (.t [])), (81, .v (.t [])), (80, .v (.t [])), (79, .v (.b true)), (78, .v (.b true)), (77, .v (.n .i64 (min x2 y2))), (76, .v (.n .i64 y2)), (75, .v (.z [[.n .i64 y0], [.n .i64 y1], [.n .i64 y2]] 2 0)), (74, .v (.n .i64 2)), (73, .v (intsP [y0, y1, y2])), (72, .v (.n .i64 x2)), (71, .v (.z [[.n .i64 x0], [.n .i64 x1], [.n .i64 x2]] 2 0)), (70, .v (.n .i64 2)), (69, .v (intsP [x0, x1, x2])), (68, .v (.n .i64 (z2 (i).toNat))), (67, .v (.z [[.n .i64 (z0 (i).toNat)], [.n .i64 (z1 (i).toNat)], [.n .i64 (z2 (i).toNat)]] 2 0)), (66, .v (.n .i64 2)), (65, .v (.l [[.n .i64 (z0 (i).toNat)], [.n .i64 (z1 (i).toNat)], [.n .i64 (z2 (i).toNat)]])), (64, .v (.zf m (fl3 z0 z1 z2) (i).toNat 0)), (63, .v (.n .i64 i)), (62, .v (.lf m (fl3 z0 z1 z2))), (59, .v (.b true)), (58, .v (.n .i64 3)), (57, .v (intsP [x0, x1, x2])), (56, .v (.n .i64 2)), (10, .v (intsP [x0, x1, x2])), (11, .v (intsP [y0, y1, y2])), (13, .v (.lf m (fl3 z0 z1 z2))), (15, .v (.n .i64 i)), (16, .v (.n .i64 2))], []⟩)
 else (bif (inB i m) then (bif (decide ((max x2 y2) < (z2 (i).toNat))) then (K .ret ⟨[(8, .v (.b false)), (97, .v (.b true)), (96, .v (.b true)), (95, .v (.n .i64 (max x2 y2))), (94, .v (.n .i64 y2)), (93, .v (.z [[.n .i64 y0], [.n .i64 y1], [.n .i64 y2]] 2 0)), (92, .v (.n .i64 2)), (91, .v (intsP [y0, y1, y2])), (90, .v (.n .i64 x2)), (89, .v (.z [[.n .i64 x0], [.n .i64 x1], [.n .i64 x2]] 2 0)), (88, .v (.n .i64 2)), (87, .v (intsP [x0, x1, x2])), (86, .v (.n .i64 (z2 (i).toNat))), (85, .v (.z [[.n .i64 (z0 (i).toNat)], [.n .i64 (z1 (i).toNat)], [.n .i64 (z2 (i).toNat)]] 2 0)), (84, .v (.n .i64 2)), (83, .v (.l [[.n .i64 (z0 (i).toNat)], [.n .i64 (z1 (i).toNat)], [.n .i64 (z2 (i).toNat)]])), (82, .v (.zf m (fl3 z0 z1 z2) (i).toNat 0)), (81, .v (.n .i64 i)), (80, .v (.lf m (fl3 z0 z1 z2))), (79, .v (.b false)), (78, .v (.b false)), (77, .v (.n .i64 (min x2 y2))), (76, .v (.n .i64 y2)), (75, .v (.z [[.n .i64 y0], [.n .i64 y1], [.n .i64 y2]] 2 0)), (74, .v (.n .i64 2)), (73, .v (intsP [y0, y1, y2])), (72, .v (.n .i64 x2)), (71, .v (.z [[.n .i64 x0], [.n .i64 x1], [.n .i64 x2]] 2 0)), (70, .v (.n .i64 2)), (69, .v (intsP [x0, x1, x2])), (68, .v (.n .i64 (z2 (i).toNat))), (67, .v (.z [[.n .i64 (z0 (i).toNat)], [.n .i64 (z1 (i).toNat)], [.n .i64 (z2 (i).toNat)]] 2 0)), (66, .v (.n .i64 2)), (65, .v (.l [[.n .i64 (z0 (i).toNat)], [.n .i64 (z1 (i).toNat)], [.n .i64 (z2 (i).toNat)]])), (64, .v (.zf m (fl3 z0 z1 z2) (i).toNat 0)), (63, .v (.n .i64 i)), (62, .v (.lf m (fl3 z0 z1 z2))), (59, .v (.b true)), (58, .v (.n .i64 3)), (57, .v (intsP [x0, x1, x2])), (56, .v (.n .i64 2)), (10, .v (intsP [x0, x1, x2])), (11, .v (intsP [y0, y1, y2])), (13, .v (.lf m (fl3 z0 z1 z2))), (15, .v (.n .i64 i)), (16, .v (.n .i64 2))], []⟩)
 else (G (lh [x0, x1, x2] [y0, y1, y2] m (fl3 z0 z1 z2) (IntKind.i64.wrap (i + 1)))))
 else none))
 else none))
 else none))
 else none))
 else none))
 else none)
 else (K (.exit 0) (lo [x0, x1, x2] [y0, y1, y2] m (fl3 z0 z1 z2) i))) := by kernel_rfl
theorem lpl3 (K : Cont) (L A B R1 R2 : List (List PV)) (q u D : Int) (m : Nat) (k0 k1 k2 : PV → Int) (z0 z1 z2 : Nat → Int) (x0 x1 x2 y0 y1 y2 : Int) (hb : ∀ v, v < m → (min x0 y0 ≤ z0 v ∧ z0 v ≤ max x0 y0) ∧ (min x1 y1 ≤ z1 v ∧ z1 v ≤ max x1 y1) ∧ (min x2 y2 ≤ z2 v ∧ z2 v ≤ max x2 y2)) (hm : m ≤ 1000) : ∀ (k : Nat) (i : Int) (j : Nat), 0 ≤ i → i + k = m → k < j →
    LF 300 (cxF T (OrL.k (lq3 L A B R1 R2 q u D m k0 k1 k2 z0 z1 z2)) 300 9 (ntmF T 9)) (ckF T (OrL.k (lq3 L A B R1 R2 q u D m k0 k1 k2 z0 z1 z2)) 300) (loopAt T 9 [0, 1, 0, 1, 1, 1, 1, 1, 1]) ((cxF T (OrL.k (lq3 L A B R1 R2 q u D m k0 k1 k2 z0 z1 z2)) 300 9 (ntmF T 9)).T.hint (cxF T (OrL.k (lq3 L A B R1 R2 q u D m k0 k1 k2 z0 z1 z2)) 300 9 (ntmF T 9)).me (firstR (loopAt T 9 [0, 1, 0, 1, 1, 1, 1, 1, 1]))) K j (lh [x0, x1, x2] [y0, y1, y2] m (fl3 z0 z1 z2) i) = K (.exit 0) (lo [x0, x1, x2] [y0, y1, y2] m (fl3 z0 z1 z2) m)
  | 0, i, j + 1, h0, hi, hj => by
    refine (rl3 (fun σ => LF 300 (cxF T (OrL.k (lq3 L A B R1 R2 q u D m k0 k1 k2 z0 z1 z2)) 300 9 (ntmF T 9)) (ckF T (OrL.k (lq3 L A B R1 R2 q u D m k0 k1 k2 z0 z1 z2)) 300) (loopAt T 9 [0, 1, 0, 1, 1, 1, 1, 1, 1]) ((cxF T (OrL.k (lq3 L A B R1 R2 q u D m k0 k1 k2 z0 z1 z2)) 300 9 (ntmF T 9)).T.hint (cxF T (OrL.k (lq3 L A B R1 R2 q u D m k0 k1 k2 z0 z1 z2)) 300 9 (ntmF T 9)).me (firstR (loopAt T 9 [0, 1, 0, 1, 1, 1, 1, 1, 1]))) K j σ) K L A B R1 R2 q u D m k0 k1 k2 z0 z1 z2 x0 x1 x2 y0 y1 y2 i).trans ?_
    rw [decide_eq_false (show ¬ i < (m : Int) by omega), cond_false, show i = (m : Int) by omega]
  | k + 1, i, j + 1, h0, hi, hj => by
    have hv := hb i.toNat (by omega)
    refine (rl3 (fun σ => LF 300 (cxF T (OrL.k (lq3 L A B R1 R2 q u D m k0 k1 k2 z0 z1 z2)) 300 9 (ntmF T 9)) (ckF T (OrL.k (lq3 L A B R1 R2 q u D m k0 k1 k2 z0 z1 z2)) 300) (loopAt T 9 [0, 1, 0, 1, 1, 1, 1, 1, 1]) ((cxF T (OrL.k (lq3 L A B R1 R2 q u D m k0 k1 k2 z0 z1 z2)) 300 9 (ntmF T 9)).T.hint (cxF T (OrL.k (lq3 L A B R1 R2 q u D m k0 k1 k2 z0 z1 z2)) 300 9 (ntmF T 9)).me (firstR (loopAt T 9 [0, 1, 0, 1, 1, 1, 1, 1, 1]))) K j σ) K L A B R1 R2 q u D m k0 k1 k2 z0 z1 z2 x0 x1 x2 y0 y1 y2 i).trans ?_
    have hB : inB i m = true := by unfold inB; rw [decide_eq_true h0, decide_eq_true (show i.toNat < m by omega)]; rfl
    simp only [decide_eq_true (show i < (m : Int) by omega), hB, decide_eq_false (show ¬ z0 i.toNat < min x0 y0 by omega), decide_eq_false (show ¬ max x0 y0 < z0 i.toNat by omega), decide_eq_false (show ¬ z1 i.toNat < min x1 y1 by omega), decide_eq_false (show ¬ max x1 y1 < z1 i.toNat by omega), decide_eq_false (show ¬ z2 i.toNat < min x2 y2 by omega), decide_eq_false (show ¬ max x2 y2 < z2 i.toNat by omega), cond_true, cond_false]
    rw [show IntKind.i64.wrap (i + 1) = i + 1 from zG (by omega)]
    exact lpl3 K L A B R1 R2 q u D m k0 k1 k2 z0 z1 z2 x0 x1 x2 y0 y1 y2 hb hm k (i + 1) j (by omega) (by omega) (by omega)
set_option maxRecDepth 100000 in
theorem pl3 (L A B R1 R2 : List (List PV)) (q u D : Int) (m : Nat) (k0 k1 k2 : PV → Int) (z0 z1 z2 : Nat → Int) : runKL T (OrL.k (lq3 L A B R1 R2 q u D m k0 k1 k2 z0 z1 z2)) (loopsL [([0, 1, 0, 1, 1, 1, 1, 1, 1], sumAt (lh [k0 (.l A), k1 (.l A), k2 (.l A)] [k0 (.l B), k1 (.l B), k2 (.l B)] m (fl3 z0 z1 z2) 0) (fun K => K (.exit 0) (lo [k0 (.l A), k1 (.l A), k2 (.l A)] [k0 (.l B), k1 (.l B), k2 (.l B)] m (fl3 z0 z1 z2) m)))]) 300 9 [.l L, .l A, .l B, .n .i64 q] =
 (bif (g1 [.l L]) then (bif (g1 [.a [.l R1, .l R2]] && (gEq (.l A) (.l A) || gEq (.l A) (.l B))) then (bif (g1 [.a [.l R1, .l R2]] && (gEq (.l B) (.l A) || gEq (.l B) (.l B))) then (bif (g1 [.a [.l R1, .l R2], intsP [k0 (.l A), k1 (.l A), k2 (.l A)], intsP [k0 (.l B), k1 (.l B), k2 (.l B)]]) then (bif (g1 [.n .i64 q, .n .i64 9]) then (bif (g1 [.a [.l R1, .l R2], .l [], intsP [k0 (.l A), k1 (.l A), k2 (.l A)], intsP [k0 (.l B), k1 (.l B), k2 (.l B)], .n .i64 (IntKind.i64.wrap ((IntKind.i64.wrap (D.tdiv 5)) + (IntKind.i64.wrap (64 * (IntKind.i64.wrap (1 + u)))))), .n .i64 0, .n .i64 200]) then (bif (decide ((m : Int) = 0)) then some (.v (.b false), [])
 else (bif gSt (lh [k0 (.l A), k1 (.l A), k2 (.l A)] [k0 (.l B), k1 (.l B), k2 (.l B)] m (fl3 z0 z1 z2) 0) (lh [k0 (.l A), k1 (.l A), k2 (.l A)] [k0 (.l B), k1 (.l B), k2 (.l B)] m (fl3 z0 z1 z2) 0) then (bif g1 [] then some (.v (.b true), []) else none) else none))
 else none)
 else none)
 else none)
 else none)
 else none)
 else none) := by kernel_rfl
theorem snd_str3 {L A B R1 R2 : List (List PV)} {q u D : Int} {m : Nat} {k0 k1 k2 : PV → Int} {z0 z1 z2 : Nat → Int} (hm : 1 ≤ m ∧ m ≤ 250) (hb : ∀ v, v < m → (min (k0 (.l A)) (k0 (.l B)) ≤ z0 v ∧ z0 v ≤ max (k0 (.l A)) (k0 (.l B))) ∧ (min (k1 (.l A)) (k1 (.l B)) ≤ z1 v ∧ z1 v ≤ max (k1 (.l A)) (k1 (.l B))) ∧ (min (k2 (.l A)) (k2 (.l B)) ≤ z2 v ∧ z2 v ≤ max (k2 (.l A)) (k2 (.l B)))) (h1 : SndA1 Tryz.prog 10 [.l L] (.v (.a [.l R1, .l R2])))
    (h2 : SndA1 Tryz.prog 20 [.a [.l R1, .l R2], .l A] (.v (intsP [k0 (.l A), k1 (.l A), k2 (.l A)]))) (h3 : SndA1 Tryz.prog 20 [.a [.l R1, .l R2], .l B] (.v (intsP [k0 (.l B), k1 (.l B), k2 (.l B)]))) (h4 : SndA1 Tryz.prog 34 [.a [.l R1, .l R2], intsP [k0 (.l A), k1 (.l A), k2 (.l A)], intsP [k0 (.l B), k1 (.l B), k2 (.l B)]] (.v (.n .i64 D))) (h5 : SndA1 Tryz.prog 16 [.n .i64 q, .n .i64 9] (.v (.n .i64 u)))
    (h6 : SndA1 Tryz.prog 33 [.a [.l R1, .l R2], .l [], intsP [k0 (.l A), k1 (.l A), k2 (.l A)], intsP [k0 (.l B), k1 (.l B), k2 (.l B)], .n .i64 (IntKind.i64.wrap ((IntKind.i64.wrap (D.tdiv 5)) + (IntKind.i64.wrap (64 * (IntKind.i64.wrap (1 + u)))))), .n .i64 0, .n .i64 200] (.v (.t [.lf m (fl3 z0 z1 z2), .n .i64 1]))) (h7 : SndA1 Tryz.prog 23 [] (.v (.b true))) : SndA1 Tryz.prog 9 [.l L, .l A, .l B, .n .i64 q] (.v (.b true)) := by
  refine runKL_sound (N := 300) (LO := loopsL [([0, 1, 0, 1, 1, 1, 1, 1, 1], (sumAt (lh [k0 (.l A), k1 (.l A), k2 (.l A)] [k0 (.l B), k1 (.l B), k2 (.l B)] m (fl3 z0 z1 z2) 0) (fun K => K (.exit 0) (lo [k0 (.l A), k1 (.l A), k2 (.l A)] [k0 (.l B), k1 (.l B), k2 (.l B)] m (fl3 z0 z1 z2) m))))]) tabOk mixed (OrL.ok (l := lq3 L A B R1 R2 q u D m k0 k1 k2 z0 z1 z2) ⟨ok_cr h1, ok_cf3 h2 h3, ok_cr h4, ok_cr h5, ok_cr h6, ok_cr h7, trivial⟩) (fun p S hp => ?_) ?_
  · refine loopsL_ok (L := loopAt T 9) (l := [([0, 1, 0, 1, 1, 1, 1, 1, 1], (sumAt (lh [k0 (.l A), k1 (.l A), k2 (.l A)] [k0 (.l B), k1 (.l B), k2 (.l B)] m (fl3 z0 z1 z2) 0) (fun K => K (.exit 0) (lo [k0 (.l A), k1 (.l A), k2 (.l A)] [k0 (.l B), k1 (.l B), k2 (.l B)] m (fl3 z0 z1 z2) m))))]) (show AllP _ [([0, 1, 0, 1, 1, 1, 1, 1, 1], (sumAt (lh [k0 (.l A), k1 (.l A), k2 (.l A)] [k0 (.l B), k1 (.l B), k2 (.l B)] m (fl3 z0 z1 z2) 0) (fun K => K (.exit 0) (lo [k0 (.l A), k1 (.l A), k2 (.l A)] [k0 (.l B), k1 (.l B), k2 (.l B)] m (fl3 z0 z1 z2) m))))] from ⟨sumAt_ok fun K r hr => ?_, trivial⟩) p S hp
    have := lpl3 K L A B R1 R2 q u D m k0 k1 k2 z0 z1 z2 (k0 (.l A)) (k1 (.l A)) (k2 (.l A)) (k0 (.l B)) (k1 (.l B)) (k2 (.l B)) hb (by omega) m 0 300 (by omega) (by omega) (by omega)
    exact this.trans hr
  · refine (pl3 L A B R1 R2 q u D m k0 k1 k2 z0 z1 z2).trans ?_
    simp only [g1_t, uY, gSt_self, Bool.true_and, Bool.true_or, Bool.or_true, decide_eq_false (show ¬ (m : Int) = 0 by omega), cond_true, cond_false]
end Go.Proofs.YtnlnbnjnapofmaaGreat.Pg
namespace Go.Sx
theorem lks_len {js : List J} {bx : List Iv} : ∀ n, n ≤ js.length → n ≤ bx.length → (lks js bx n).length = n
  | 0, _, _ => rfl
  | n + 1, h1, h2 => by
    have e1 : js[n]? = some js[n] := List.getElem?_eq_getElem (by omega)
    have e2 : bx[n]? = some bx[n] := List.getElem?_eq_getElem (by omega)
    rw [lks_succ e1 e2, List.length_append, lks_len n (by omega) (by omega)]
    rfl
end Go.Sx
namespace Go.Sx
def ic (x : Int) : List Value := [.int .i64 x]
def icC (cs : List Int) : List Value := (cs.map ic).flatten
theorem icC_snoc (cs : List Int) (x : Int) : icC (cs ++ [x]) = icC cs ++ ic x := by simp [icC]
def cfgs (l : List Int) (js : List J) : Nat → List Int × Nat
  | 0 => ([], 0)
  | k + 1 => match js[k]? with
    | some j => if srcR l (cfgs l js k).2 6 = 0 then ((cfgs l js k).1 ++ [j.lo], (cfgs l js k).2 + 1) else if srcR l (cfgs l js k).2 6 = 1 then ((cfgs l js k).1 ++ [j.hi], (cfgs l js k).2 + 1)
      else ((cfgs l js k).1 ++ [j.lo + srcR l ((cfgs l js k).2 + 1) (j.hi - j.lo + 1)], (cfgs l js k).2 + 1 + 1)
    | none => cfgs l js k
theorem cfg_0 {l : List Int} {js : List J} {k q : Nat} {j : J} {cs : List Int} {r : Int} (hjk : js[k]? = some j) (h : cfgs l js k = (cs, q)) (hr : r = srcR l q 6) (h0 : r = 0) : cfgs l js (k + 1) = (cs ++ [j.lo], q + 1) := by
  simp only [cfgs, hjk, h, ← hr, h0, if_pos]
theorem cfg_1 {l : List Int} {js : List J} {k q : Nat} {j : J} {cs : List Int} {r : Int} (hjk : js[k]? = some j) (h : cfgs l js k = (cs, q)) (hr : r = srcR l q 6) (h1 : r = 1) : cfgs l js (k + 1) = (cs ++ [j.hi], q + 1) := by
  simp only [cfgs, hjk, h, ← hr, h1]
  rfl
theorem cfg_2 {l : List Int} {js : List J} {k q : Nat} {j : J} {cs : List Int} {r x : Int} (hjk : js[k]? = some j) (h : cfgs l js k = (cs, q)) (hr : r = srcR l q 6) (h0 : ¬ r = 0) (h1 : ¬ r = 1) (hx : x = srcR l (q + 1) (j.hi - j.lo + 1)) : cfgs l js (k + 1) = (cs ++ [j.lo + x], q + 1 + 1) := by
  simp only [cfgs, hjk, h, ← hr, if_neg h0, if_neg h1, ← hx]
theorem cfgs_len {l : List Int} {js : List J} : ∀ k, k ≤ js.length → (cfgs l js k).1.length = k
  | 0, _ => rfl
  | k + 1, h => by
    have hk : js[k]? = some js[k] := List.getElem?_eq_getElem (by omega)
    have h2 := cfgs_len (l := l) (js := js) k (by omega)
    simp only [cfgs, hk]
    split
    · simp [h2]
    · split <;> simp [h2]
end Go.Sx
namespace Go.Sx
def Ex (a : Iv) : Prop := a.lo = a.hi
def pts1 (cs : List Int) : List Iv := cs.map fun x => ⟨x, x⟩
end Go.Sx
namespace Go.Proofs.YtnlnbnjnapofmaaGreat
open Go.Sx
theorem app48 : appB Tryz.prog 48 2 1 8 = true := by kernel_rfl
theorem mkCfg (lv : Value) (l : List Int) (aj am : Option Addr) (cj nm cm : Nat) (js : List J) (hn : js.length ≤ 1000) (hjs : ∀ j ∈ js, JB j) (w : World) (hl : IntsAt w w.heap.size lv l) (hS : SlcIs 12 aj (js.map jc) w) : Calls Tryz.prog 20 [.agg #[.slice aj js.length cj, .slice am nm cm], lv].toArray w (RetsF (X := Option Addr × Nat) (fun _ => True) (fun x => .slice x.1 js.length x.2) (fun x => OwnF 0 2 1 x.1 x.2 js.length (icC (cfgs l js js.length).1)) w) := by
  refine yQ (n := 57) Tryz.func20 rfl rfl rfl ?_
  refine qJ ?_
  refine qZ ?_
  refine kK 2 rfl rfl rfl rfl ?_; intro b2
  refine qK (qW rfl) rfl rfl rfl ?_
  refine qU ?_
  refine qQ ?_
  refine qJ ?_
  refine qZ ?_
  refine qK (qY rfl) rfl rfl rfl ?_
  refine doL_callNew 11 en36 rfl (fun w' k => mFrom w' (intsAt_grow hl k.grow (Nat.le_refl _))) rfl rfl ?_; intro b11
  refine qK (qW rfl) rfl rfl rfl ?_
  refine qU ?_
  refine qQ ?_
  refine qJ ?_
  refine qZ ?_
  refine qK (qW rfl) rfl rfl rfl ?_
  refine qU ?_
  refine qQ ?_
  refine qJ ?_
  refine qJ ?_
  refine doC_own 100 2 1 ?_
  refine qZ ?_
  refine qK (qW rfl) rfl rfl rfl ?_
  refine qU ?_
  refine qQ ?_
  refine zK ?_
  refine doC_loopK [2, 5] [2] (α := Nat × Nat × Option Addr × Nat × List Int) (fun x => js.length - x.1) (fun x => x.1 ≤ js.length ∧ cfgs l js x.1 = (x.2.2.2.2, x.2.1) ∧ x.2.2.2.2.length = x.1) (fun x => ⟨w, [(100, ownD x.2.2.1, OwnF 0 2 1 x.2.2.1 x.2.2.2.1 x.1 (icC x.2.2.2.2))]⟩) (fun x => [(6, .slice x.2.2.1 x.1 x.2.2.2.1), (7, .int .i64 (x.1 : Int))]) (fun x => [(11, b11, srcC lv l x.2.1, 116)]) (0, 0, none, 0, []) rfl rfl ?_ ?_ ?_ ?_ rfl ?_
  ·
    exact ⟨Nat.zero_le _, rfl, rfl⟩
  ·
    exact rfl
  ·
    repeat' first | exact trivial | exact True.intro | refine ⟨rfl, ?_⟩
  ·
    repeat' first | exact trivial | exact True.intro | refine ⟨rfl, ?_⟩
  rintro ⟨k, q, a, cap, cs⟩ ⟨hk, hsh, hlen⟩
  dsimp only at hk hsh hlen ⊢
  refine qJ ?_
  refine qJ ?_
  refine qZ ?_
  refine qK (qY rfl) rfl rfl rfl ?_
  refine qK (qH fa26_0 rfl) rfl rfl rfl ?_
  refine qK (zJ 2 ty23 rfl rfl rfl) rfl rfl rfl ?_
  refine qK (opV_len_slice sl23 rfl) rfl rfl rfl ?_
  refine qK (yK rfl rfl) rfl rfl rfl ?_
  refine qU ?_
  refine qQ ?_
  refine jG rfl (fun hc16 => ?_) (fun hc16 => ?_)
  ·
    have h2 : k < js.length := by have := of_decide_eq_true hc16; omega
    obtain ⟨j, hjk⟩ : ∃ j, js[k]? = some j := ⟨_, List.getElem?_eq_getElem h2⟩
    have hj : (js.map jc)[k]? = some (jc j) := by rw [List.getElem?_map, hjk]; rfl
    obtain ⟨bj1, bj2, bj3⟩ := hjs j (List.mem_of_getElem? hjk)
    refine zU ?_
    refine qQ ?_
    refine qJ ?_
    refine zK ?_
    refine qJ ?_
    refine doC_all mo (by kernel_rfl) ?_
    refine qG (qH fa26_0 rfl) rfl rfl rfl ?_
    refine qG (zJ 2 ty23 rfl rfl rfl) rfl rfl rfl ?_
    refine qG (qY rfl) rfl rfl rfl ?_
    refine qG (opV_indexS (e := 87) (holds_base hS) (by kernel_rfl) rfl rfl rfl hj h2) rfl rfl rfl ?_
    refine qG (opV_fieldS (holds_base hS) hj fa87_4 rfl) rfl rfl rfl ?_
    refine qG (opV_loadS1 k 6 (holds_base hS) hj ty2 rfl rfl) rfl rfl rfl ?_
    refine qG (qH fa26_0 rfl) rfl rfl rfl ?_
    refine qG (zJ 2 ty23 rfl rfl rfl) rfl rfl rfl ?_
    refine qG (qY rfl) rfl rfl rfl ?_
    refine qG (opV_indexS (e := 87) (holds_base hS) (by kernel_rfl) rfl rfl rfl hj h2) rfl rfl rfl ?_
    refine qG (opV_fieldS (holds_base hS) hj fa87_5 rfl) rfl rfl rfl ?_
    refine qG (opV_loadS1 k 7 (holds_base hS) hj ty2 rfl rfl) rfl rfl rfl ?_
    refine qG (qW rfl) rfl rfl rfl ?_
    refine qG (qW rfl) rfl rfl rfl ?_
    refine jK ?_
    refine qQ ?_
    refine qJ ?_
    refine qZ ?_
    refine qK (qY rfl) rfl rfl rfl ?_
    refine doL_srcB (F := vI) 11 hl rfl en37 rfl (fun w' h => srcNext _ (by first | omega | assumption | (unfold In64; omega) | decide) w' h) rfl rfl rfl ?_; intro r32 hr32
    have br32 := srcR_b hr32 (by first | decide | omega)
    refine qU ?_
    refine qQ ?_
    refine zK ?_
    refine qJ ?_
    refine qZ ?_
    refine qK (uU rfl rfl) rfl rfl rfl ?_
    refine qK (qW rfl) rfl rfl rfl ?_
    refine qU ?_
    refine qQ ?_
    refine jG rfl (fun hc44 => ?_) (fun hc44 => ?_)
    ·
      refine qZ ?_
      refine qK (qY rfl) rfl rfl rfl ?_
      refine qK (qY rfl) rfl rfl rfl ?_
      refine doL_bslice 48 sl48 ze2 rfl rfl rfl rfl rfl rfl rfl rfl ?_; intro b48
      refine doL_append (id2 := 48) 100 app48 rfl rfl rfl rfl rfl rfl rfl (by omega) (by omega) rfl rfl ?_; intro a49 c49 R49 hR49
      obtain rfl := Option.some.inj hR49
      refine qK (qW rfl) rfl rfl rfl ?_
      refine qU ?_
      refine qV ?_
      refine qV ?_
      refine qQ ?_
      refine qZ ?_
      refine qK (qY rfl) rfl rfl rfl ?_
      refine qK (yJ rfl rfl (inc_nat (by omega))) rfl rfl rfl ?_
      refine qK (qW rfl) rfl rfl rfl ?_
      refine qU ?_
      refine post_again (k + 1, q + 1, a49, c49, cs ++ [j.lo]) (by refine ⟨?_, ?_, ?_⟩ <;> dsimp only; omega; exact cfg_0 hjk hsh hr32 (of_decide_eq_true hc44); simp [hlen]) (by show js.length - (k + 1) < js.length - k; omega) (by dsimp only; rw [icC_snoc]; rfl) ?_ ?_ rfl
      repeat' first | exact trivial | exact True.intro | refine ⟨rfl, ?_⟩
    ·
      refine qJ ?_
      refine qZ ?_
      refine qK (uU rfl rfl) rfl rfl rfl ?_
      refine qK (qW rfl) rfl rfl rfl ?_
      refine qU ?_
      refine qQ ?_
      refine jG rfl (fun hc50 => ?_) (fun hc50 => ?_)
      ·
        refine qZ ?_
        refine qK (qY rfl) rfl rfl rfl ?_
        refine qK (qY rfl) rfl rfl rfl ?_
        refine doL_bslice 54 sl48 ze2 rfl rfl rfl rfl rfl rfl rfl rfl ?_; intro b54
        refine doL_append (id2 := 54) 100 app48 rfl rfl rfl rfl rfl rfl rfl (by omega) (by omega) rfl rfl ?_; intro a55 c55 R55 hR55
        obtain rfl := Option.some.inj hR55
        refine qK (qW rfl) rfl rfl rfl ?_
        refine qU ?_
        refine qV ?_
        refine qV ?_
        refine qQ ?_
        refine qZ ?_
        refine qK (qY rfl) rfl rfl rfl ?_
        refine qK (yJ rfl rfl (inc_nat (by omega))) rfl rfl rfl ?_
        refine qK (qW rfl) rfl rfl rfl ?_
        refine qU ?_
        refine post_again (k + 1, q + 1, a55, c55, cs ++ [j.hi]) (by refine ⟨?_, ?_, ?_⟩ <;> dsimp only; omega; exact cfg_1 hjk hsh hr32 (of_decide_eq_true hc50); simp [hlen]) (by show js.length - (k + 1) < js.length - k; omega) (by dsimp only; rw [icC_snoc]; rfl) ?_ ?_ rfl
        repeat' first | exact trivial | exact True.intro | refine ⟨rfl, ?_⟩
      ·
        refine qZ ?_
        refine qK (qY rfl) rfl rfl rfl ?_
        refine qK (qY rfl) rfl rfl rfl ?_
        refine qK (qY rfl) rfl rfl rfl ?_
        refine qK (qY rfl) rfl rfl rfl ?_
        refine qK (qY rfl) rfl rfl rfl ?_
        refine qK (opV_sub rfl rfl (by first | exact zG ⟨by omega, by omega⟩ | rfl)) rfl rfl rfl ?_
        refine qK (yJ rfl rfl (by first | exact zG ⟨by omega, by omega⟩ | rfl)) rfl rfl rfl ?_
        refine doL_srcB (F := vI) 11 hl rfl en37 rfl (fun w' h => srcNext _ (by first | omega | assumption | (unfold In64; omega) | decide) w' h) rfl rfl rfl ?_; intro r40 hr40
        have br40 := srcR_b hr40 (by first | decide | omega)
        refine qK (yJ rfl rfl (by first | exact zG ⟨by omega, by omega⟩ | rfl)) rfl rfl rfl ?_
        refine doL_bslice 42 sl48 ze2 rfl rfl rfl rfl rfl rfl rfl rfl ?_; intro b42
        refine doL_append (id2 := 42) 100 app48 rfl rfl rfl rfl rfl rfl rfl (by omega) (by omega) rfl rfl ?_; intro a43 c43 R43 hR43
        obtain rfl := Option.some.inj hR43
        refine qK (qW rfl) rfl rfl rfl ?_
        refine qU ?_
        refine qV ?_
        refine qV ?_
        refine qQ ?_
        refine qZ ?_
        refine qK (qY rfl) rfl rfl rfl ?_
        refine qK (yJ rfl rfl (inc_nat (by omega))) rfl rfl rfl ?_
        refine qK (qW rfl) rfl rfl rfl ?_
        refine qU ?_
        refine post_again (k + 1, q + 1 + 1, a43, c43, cs ++ [j.lo + r40]) (by refine ⟨?_, ?_, ?_⟩ <;> dsimp only; omega; exact cfg_2 hjk hsh hr32 (of_decide_eq_false hc44) (of_decide_eq_false hc50) hr40; simp [hlen]) (by show js.length - (k + 1) < js.length - k; omega) (by dsimp only; rw [icC_snoc]; rfl) ?_ ?_ rfl
        repeat' first | exact trivial | exact True.intro | refine ⟨rfl, ?_⟩
  ·
    obtain rfl : k = js.length := by have := of_decide_eq_false hc16; omega
    refine kH ?_
    refine zX ?_
    refine zX ?_
    refine yH ?_
    refine qQ ?_
    refine qJ ?_
    refine qZ ?_
    refine qK (qY rfl) rfl rfl rfl ?_
    refine qK (qW rfl) rfl rfl rfl ?_
    refine qU ?_
    refine qQ ?_
    refine yU ?_
    refine post_ret (rs := [.tmp 4]) rfl (resC (jU rfl) (resN)) rfl ?_
    intro w2 k2
    obtain ⟨_, q2, q3⟩ := k2.facts _ List.mem_cons_self
    exact ⟨(a, cap), trivial, rfl, k2.grow, ownD a, own_dep _ _ _ _ _ _ _, fun z hz => ⟨(q2 z hz).1, (q2 z hz).2.1⟩, by dsimp only; rw [hsh]; exact q3⟩
end Go.Proofs.YtnlnbnjnapofmaaGreat
namespace Go.Rx
open Go.RowKit Go.Sx Go.ChangeShapes Go.WideShapes
section
variable {P : Program} {W : World} {H : Type} {enc : TypeId × Value → H}
def ListArg (W : World) (v : Value) (L : List Int) : Prop := RP (fun k => k < W.heap.size) W (intsP L) v ∧ L.length ≤ 9223372036854775807 ∧ ∀ x ∈ L, In64 x
theorem open_rp {t e : TypeId} {v : Value} {d : DataW H} {p : List MemPlace} (ht : P.underlying t = some (.slice e)) (he : P.underlying e = some (.int .i64)) (hc : P.cellsOf e = 1)
    {r : Reach} {base : Nat} (hv : Value.okWide P W r base t v) (h : DataW.Trod enc P W 0 (fun _ => true) true t v d p) : ∃ L : List Int, ListArg W v L := by
  obtain ⟨a, l, c, rfl⟩ := slice_of ht hv
  obtain ⟨fuel, h⟩ := h
  have h' : DataW.trod enc P W 0 (fun _ => true) true fuel t [.slice a l c] = some (d, p) := h
  rcases open_ints ht he hc h' with ⟨h1, _⟩ | ⟨a', len, cap, zs, h1, _, hlc, hcap, hz, _, hcell, hwf⟩
  · simp at h1
    obtain ⟨rfl, rfl, rfl⟩ := h1
    exact ⟨[], .l0 none 0, by simp, fun x hx => by cases hx⟩
  · simp at h1
    obtain ⟨rfl, rfl, rfl⟩ := h1
    simp only [if_true] at hz
    have hlen : (zs.take l).length = l := by simp; omega
    have hI : IntsAt W W.heap.size (.slice (some a') l c) (zs.take l) := ⟨by have : maxLen = 9223372036854775807 := rfl; omega, some a', c, by rw [hlen], fun j hj => by
      rw [hlen] at hj
      have h0 := hcell 0 (by omega)
      have hj' := hcell j (by omega)
      have hsp : a'.spot = none := by
        have e : a'.add 0 = a' := by simp [Addr.add]
        rw [e] at h0
        unfold World.cell? at h0
        cases hb : W.heap[a'.block]? with
        | none => simp [hb] at h0
        | some o => cases o <;> simp [hb] at h0; exact h0.1
      obtain ⟨bb, off, sp⟩ := a'
      simp only at hsp
      subst hsp
      rw [add_addr] at hj'
      refine ⟨bb, off, rfl, ?_, ?_⟩
      · unfold World.cell? at hj'
        cases hb : W.heap[bb]? with
        | none => simp [hb] at hj'
        | some o => exact kW hb
      · rw [hj']
        simp [List.getD_eq_getElem?_getD, List.getElem?_take, hj]⟩
    refine ⟨zs.take l, ?_, hI.1, fun x hx => ?_⟩
    · have := rp_of_ints (F := fun k => k < W.heap.size) (w := W) (L := zs.take l) (a := some a') (c := c) (by rw [hlen]; exact hI) (by rw [hlen]; exact hlc) fun k hk => hk
      rw [hlen] at this
      exact this
    · have := hwf x (List.mem_of_mem_take hx)
      simpa [Lit.wf, IntKind.has, IntKind.min, IntKind.max, IntKind.signed, IntKind.bits, In64] using this
end
end Go.Rx
namespace Go.Proofs.YtnlnbnjnapofmaaGreat.Ph
open Go.Rx Rt Go.Sx Go.RowKit
open Ov Ow Pc Pd Pe Pf Pg
noncomputable def cfgOf (l a : List Int) : List Int := (cfgs a (jsOf l 0 (nJ l 0)).1 (nJ l 0)).1
theorem cfgs_in {a : List Int} {js : List J} (hj : ∀ j ∈ js, JB j) : ∀ n, n ≤ js.length → ∀ (k : Nat) (j : J) (x : Int), js[k]? = some j → (cfgs a js n).1[k]? = some x → j.lo ≤ x ∧ x ≤ j.hi
  | 0, _, k, j, x, _, h => by simp [cfgs] at h
  | n + 1, hn, k, j, x, hk, hx => by
    have hjn : js[n]? = some (js[n]'(by omega)) := List.getElem?_eq_getElem (by omega)
    generalize js[n]'(by omega) = jn at hjn
    have hl := cfgs_len (l := a) (js := js) n (by omega)
    have ih := cfgs_in (a := a) hj n (by omega) k j x hk
    obtain ⟨b1, b2, b3⟩ := hj jn (List.mem_of_getElem? hjn)
    have key : ∃ y q, cfgs a js (n + 1) = ((cfgs a js n).1 ++ [y], q) ∧ jn.lo ≤ y ∧ y ≤ jn.hi := by
      simp only [cfgs, hjn]
      split
      · exact ⟨_, _, rfl, by omega, by omega⟩
      · split
        · exact ⟨_, _, rfl, by omega, by omega⟩
        · have r := srcR_bnd a ((cfgs a js n).2 + 1) (k := jn.hi - jn.lo + 1) (by omega)
          exact ⟨_, _, rfl, by omega, by omega⟩
    obtain ⟨y, q, e, h1, h2⟩ := key
    rw [e] at hx
    by_cases hkn : k < n
    · rw [List.getElem?_append_left (by omega)] at hx; exact ih hx
    · rw [List.getElem?_append_right (by omega), hl] at hx
      have h3 := (List.getElem?_eq_some_iff.1 hx).1
      simp at h3
      obtain rfl : k = n := by omega
      rw [hjn] at hk
      cases hk
      simp at hx
      subst hx
      exact ⟨h1, h2⟩
theorem okB_of : ∀ {js : List J} {c : List Int}, c.length = js.length → (∀ (k : Nat) (j : J) (x : Int), js[k]? = some j → c[k]? = some x → j.lo ≤ x ∧ x ≤ j.hi) → okB js c = true
  | [], [], _, _ => rfl
  | j :: js, x :: c, h, hh => by
    simp only [okB, Bool.and_eq_true, decide_eq_true_eq]
    exact ⟨(hh 0 j x rfl rfl).1, (hh 0 j x rfl rfl).2, okB_of (by simpa using h) (fun k j x h1 h2 => hh (k + 1) j x h1 h2)⟩
  | [], _ :: _, h, _ => by cases h
  | _ :: _, [], h, _ => by cases h
theorem cfgOf_len (l a : List Int) : (cfgOf l a).length = nJ l 0 := cfgs_len _ (by rw [jsOf_len]; exact Nat.le_refl _)
theorem cfgOf_ok (l a : List Int) : okB (jsOf l 0 (nJ l 0)).1 (cfgOf l a) = true :=
  okB_of ((cfgOf_len l a).trans (jsOf_len l 0 _).symm) fun k j x h1 h2 => cfgs_in (jsOf_b l 0 _) _ (by rw [jsOf_len]; exact Nat.le_refl _) k j x h1 h2
theorem snd_cfg {l a : List Int} (ha : a.length ≤ 9223372036854775807) : SndA1 Tryz.prog 20 [robP l, intsP a] (.v (intsP (cfgOf l a))) := by
  have hl : ((cfgOf l a).map fun x => [PV.n .i64 x]).length = nJ l 0 := by rw [List.length_map]; exact cfgOf_len l a
  refine snd_ow_v (e := 2) (sz := 1) (snd_toldOw (Φ := fun _ => True) (rows := (cfgOf l a).map fun x => [PV.n .i64 x]) (yW Tryz.func20 (by kernel_rfl) (by kernel_rfl)) (intsP_flat _) (by decide) (fun w F vals hF hal => ?_))
  obtain ⟨v1, vs, rfl, h1, hal⟩ := al_uncons hal
  obtain ⟨v2, vs, rfl, h2, hal⟩ := al_uncons hal
  obtain rfl := al_unnil hal
  obtain ⟨aj, cj, am, cm, rfl, hj, hm'⟩ := rob_open hF h1
  have h := mkCfg v2 a aj am cj (nM l 0) cm (jsOf l 0 (nJ l 0)).1 (by rw [jsOf_len]; have := nJ_b l 0; omega) (jsOf_b l 0 _) w (ints_of_rp ha hF h2) hj
  rw [jsOf_len] at h
  rw [hl, valRows_map (g := ic) (fun _ => rfl)]
  exact h
theorem made_w (l : List Int) : ∀ j ∈ (jsOf l 0 (nJ l 0)).1, 1 ≤ j.weight ∧ j.weight ≤ 4 := fun j hj => by
  obtain ⟨k, hk⟩ := List.mem_iff_getElem?.1 hj
  obtain ⟨p, rfl⟩ := jsOf_get l 0 _ k j hk
  have := (jointOf_same l p (k : Int)).2.2.2.2.1
  have r := srcR_bnd l p (k := 4) (by decide)
  omega
theorem wsum_le : ∀ (js : List J), (∀ j ∈ js, 1 ≤ j.weight ∧ j.weight ≤ 4) → wsum js ≤ 4 * js.length
  | [], _ => by simp [wsum]
  | j :: js, h => by
    have h1 := wsum_le js fun j hj => h j (List.mem_cons_of_mem _ hj)
    have h2 := h j List.mem_cons_self
    simp only [wsum, List.length_cons]
    omega
theorem dst_ub : ∀ {js : List J} {c y : List Int}, (∀ j ∈ js, 1 ≤ j.weight ∧ j.weight ≤ 4) → (∀ j ∈ js, JB j) → okB js c = true → okB js y = true → dst js c y ≤ wsum js * 2000000
  | [], [], [], _, _, _, _ => by simp [dst, wsum]
  | j :: js, x :: c, z :: y, hw, hb, h1, h2 => by
    simp only [okB, Bool.and_eq_true, decide_eq_true_eq] at h1 h2
    have ih := dst_ub (fun j hj => hw j (List.mem_cons_of_mem _ hj)) (fun j hj => hb j (List.mem_cons_of_mem _ hj)) h1.2.2 h2.2.2
    have hw1 := hw j List.mem_cons_self
    obtain ⟨b1, b2, b3⟩ := hb j List.mem_cons_self
    have := Int.mul_le_mul_of_nonneg_left (show max (x - z) (z - x) ≤ 2000000 by omega) (show 0 ≤ j.weight by omega)
    simp only [dst, wsum]
    omega
  | [], [], _ :: _, _, _, _, h => by cases h
  | [], _ :: _, _, _, _, h, _ => by cases h
  | _ :: _, [], _, _, _, h, _ => by cases h
  | _ :: _, _ :: _, [], _, _, _, h => by cases h
theorem path_len (D : List Int → Int) (s : Int) (b : List Int) : ∀ k c, (path D s b k c).length = k
  | 0, _ => rfl
  | k + 1, c => by simp [path, path_len D s b k]
theorem nxt_nxs {s d : Int} {c b : List Int} (h : c.length = b.length) : nxt s d c b = nxs s d c b := by
  unfold nxt
  by_cases hd : d ≤ s
  · rw [if_pos hd, nxs_le hd c b h]
  · rw [if_neg hd, nxs_gt hd]
theorem ext_ex {l x y : List Int} {s : Int} (hx : okB (jsOf l 0 (nJ l 0)).1 x = true) (hy : okB (jsOf l 0 (nJ l 0)).1 y = true) (hs : 64 ≤ s ∧ s ≤ 1073741824) (hd : dst (jsOf l 0 (nJ l 0)).1 x y ≤ s + 8 * (s - 12)) :
    ∃ rest : List (List Int), rest.length ≤ 9 ∧ (∀ v ∈ rest, Btw x y v) ∧ SndA1 Tryz.prog 33 [robP l, .l [], intsP x, intsP y, .n .i64 s, .n .i64 0, .n .i64 200] (.v (.t [.l ((x :: rest).map fun v => [intsP v]), .n .i64 1])) := by
  have hn := nJ_b l 0
  have hjl := jsOf_len l 0 (nJ l 0)
  have hc := snd_check l
  have hjb := jsOf_b l 0 (nJ l 0)
  have hw := made_w l
  have hxl := (okB_len hx).trans hjl
  have hyl := (okB_len hy).trans hjl
  have hws := wsum_le _ hw
  rw [hjl] at hws
  obtain ⟨k, hk, hg⟩ := goes_ex (fun j hj => (hw j hj).1) hs.1 (by omega) hy 8 x hx (by simpa using hd)
  have hpb := path_btw hs.1 hy k x hg (btw_l x y (hxl.trans hyl.symm))
  refine ⟨path (fun c => dst (jsOf l 0 (nJ l 0)).1 c y) s y k x, by rw [path_len]; omega, hpb, ?_⟩
  clear hpb
  have hv : ∀ e ∈ pts1 x, Iv.valid e = true := fun e he => by
    obtain ⟨z, hz, rfl⟩ := List.mem_map.1 he
    obtain ⟨i, hi⟩ := List.mem_iff_getElem?.1 hz
    have hil := (List.getElem?_eq_some_iff.1 hi).1
    have key : ∀ {js : List J} {c : List Int}, (∀ j ∈ js, JB j) → okB js c = true → ∀ z ∈ c, -1000000 ≤ z ∧ z ≤ 1000000 := by
      intro js
      induction js with
      | nil => intro c _ h z hz; cases c with | nil => cases hz | cons _ _ => cases h
      | cons j js ih =>
        intro c hb h z hz
        cases c with
        | nil => cases hz
        | cons u c =>
          simp only [okB, Bool.and_eq_true, decide_eq_true_eq] at h
          rcases List.mem_cons.1 hz with rfl | hz
          · obtain ⟨b1, b2, b3⟩ := hb j List.mem_cons_self; omega
          · exact ih (fun j hj => hb j (List.mem_cons_of_mem _ hj)) h.2.2 z hz
    have hz2 := key hjb hx z hz
    unfold Iv.valid
    simp only [Bool.and_eq_true, decide_eq_true_eq]
    omega
  have hlk : SndA1 Tryz.prog 73 [robP l, .l ((pts1 x).map Rx.ivC)] (.v (.l ((lksOf l (pts1 x)).map poC))) := snd_links (by simp [pts1, hxl]) hv
  generalize (lksOf l (pts1 x)).map poC = K at hlk
  unfold robP at hc hlk ⊢
  rcases (by omega : nJ l 0 = 1 ∨ nJ l 0 = 2 ∨ nJ l 0 = 3) with h | h | h
  · obtain ⟨j0, hj⟩ := l1 (hjl.trans h)
    obtain ⟨x0, rfl⟩ := l1 (hxl.trans h)
    obtain ⟨y0, rfl⟩ := l1 (hyl.trans h)
    rw [hj] at hx hy hg hc hlk hjb hw ⊢
    have jb0 := hjb j0 (by simp)
    have jw0 : JW j0 := by have := hw j0 (by simp); exact ⟨this.1, by omega⟩
    have inn : ∀ c0 : Int, okB [j0] [c0] = true → (cin j0 c0 ∧ Bn c0) := fun c0 hk => by
      simp only [okB, Bool.and_eq_true, decide_eq_true_eq, and_true] at hk
      exact ⟨⟨by omega, by omega⟩, by unfold JB at jb0; unfold Bn; omega⟩
    obtain ⟨cix0, bnx0⟩ := inn x0 hx
    obtain ⟨ciy0, bny0⟩ := inn y0 hy
    have h1 : SndA1 Tryz.prog 40 [.a [.l (([j0] : List J).map jp), .l ((msOf l 0 (nM l 0)).map mp)], .l []] (.v (.b true)) := snd_ck_1 (mr := (msOf l 0 (nM l 0)).map mp) hc
    have h2 : ∀ c : List Int, c.length = 1 → okB [j0] c = true → SndA1 Tryz.prog 47 [.a [.l (([j0] : List J).map jp), .l ((msOf l 0 (nM l 0)).map mp)], intsP c] (.v (.b true)) := fun c hl hk => by
      obtain ⟨c0, rfl⟩ := l1 hl
      obtain ⟨cic0, bnc0⟩ := inn c0 hk
      exact snd_ins_1 (mr := (msOf l 0 (nM l 0)).map mp) cic0 hc
    have h3 := snd_bx_1 bnx0
    have hib := snd_ins1 (mr := (msOf l 0 (nM l 0)).map mp) (b0 := ⟨x0, x0⟩) (by obtain ⟨p, q⟩ := cix0; unfold JB at jb0; unfold bxOk; dsimp only; omega) hc
    have h4 := snd_hd0 h1 hib hlk
    refine snd_ext1 (ok := okB [j0]) (D := fun c => dst [j0] c [y0]) k ⟨by omega, hs.2⟩ hy hg (by omega) h1 h2 h3 h4 (fun c hl hk => ?_) (fun c d hl hk => ?_) (fun c hl hk => ?_)
    · obtain ⟨c0, rfl⟩ := l1 hl
      obtain ⟨cic0, bnc0⟩ := inn c0 hk
      exact snd_dist1 (mr := (msOf l 0 (nM l 0)).map mp) jw0 bnc0 bny0 hc
    · obtain ⟨c0, rfl⟩ := l1 hl
      obtain ⟨cic0, bnc0⟩ := inn c0 hk
      rw [← nxt_nxs (by rfl)]
      exact snd_tw1 bnc0 bny0 ⟨by omega, hs.2⟩
    · have h2c := h2 c hl hk
      obtain ⟨c0, rfl⟩ := l1 hl
      exact snd_pj1 h1 h2c
  · obtain ⟨j0, j1, hj⟩ := l2 (hjl.trans h)
    obtain ⟨x0, x1, rfl⟩ := l2 (hxl.trans h)
    obtain ⟨y0, y1, rfl⟩ := l2 (hyl.trans h)
    rw [hj] at hx hy hg hc hlk hjb hw ⊢
    have jb0 := hjb j0 (by simp)
    have jw0 : JW j0 := by have := hw j0 (by simp); exact ⟨this.1, by omega⟩
    have jb1 := hjb j1 (by simp)
    have jw1 : JW j1 := by have := hw j1 (by simp); exact ⟨this.1, by omega⟩
    have inn : ∀ c0 c1 : Int, okB [j0, j1] [c0, c1] = true → (cin j0 c0 ∧ Bn c0) ∧ (cin j1 c1 ∧ Bn c1) := fun c0 c1 hk => by
      simp only [okB, Bool.and_eq_true, decide_eq_true_eq, and_true] at hk
      exact ⟨⟨⟨by omega, by omega⟩, by unfold JB at jb0; unfold Bn; omega⟩, ⟨⟨by omega, by omega⟩, by unfold JB at jb1; unfold Bn; omega⟩⟩
    obtain ⟨⟨cix0, bnx0⟩, ⟨cix1, bnx1⟩⟩ := inn x0 x1 hx
    obtain ⟨⟨ciy0, bny0⟩, ⟨ciy1, bny1⟩⟩ := inn y0 y1 hy
    have h1 : SndA1 Tryz.prog 40 [.a [.l (([j0, j1] : List J).map jp), .l ((msOf l 0 (nM l 0)).map mp)], .l []] (.v (.b true)) := snd_ck_2 (mr := (msOf l 0 (nM l 0)).map mp) hc
    have h2 : ∀ c : List Int, c.length = 2 → okB [j0, j1] c = true → SndA1 Tryz.prog 47 [.a [.l (([j0, j1] : List J).map jp), .l ((msOf l 0 (nM l 0)).map mp)], intsP c] (.v (.b true)) := fun c hl hk => by
      obtain ⟨c0, c1, rfl⟩ := l2 hl
      obtain ⟨⟨cic0, bnc0⟩, ⟨cic1, bnc1⟩⟩ := inn c0 c1 hk
      exact snd_ins_2 (mr := (msOf l 0 (nM l 0)).map mp) cic0 cic1 hc
    have h3 := snd_bx_2 bnx0 bnx1
    have hib := snd_ins2 (mr := (msOf l 0 (nM l 0)).map mp) (b0 := ⟨x0, x0⟩) (b1 := ⟨x1, x1⟩) (by obtain ⟨p, q⟩ := cix0; unfold JB at jb0; unfold bxOk; dsimp only; omega) (by obtain ⟨p, q⟩ := cix1; unfold JB at jb1; unfold bxOk; dsimp only; omega) hc
    have h4 := snd_hd0 h1 hib hlk
    refine snd_ext2 (ok := okB [j0, j1]) (D := fun c => dst [j0, j1] c [y0, y1]) k ⟨by omega, hs.2⟩ hy hg (by omega) h1 h2 h3 h4 (fun c hl hk => ?_) (fun c d hl hk => ?_) (fun c hl hk => ?_)
    · obtain ⟨c0, c1, rfl⟩ := l2 hl
      obtain ⟨⟨cic0, bnc0⟩, ⟨cic1, bnc1⟩⟩ := inn c0 c1 hk
      exact snd_dist2 (mr := (msOf l 0 (nM l 0)).map mp) jw0 jw1 bnc0 bnc1 bny0 bny1 hc
    · obtain ⟨c0, c1, rfl⟩ := l2 hl
      obtain ⟨⟨cic0, bnc0⟩, ⟨cic1, bnc1⟩⟩ := inn c0 c1 hk
      rw [← nxt_nxs (by rfl)]
      exact snd_tw2 bnc0 bny0 bnc1 bny1 ⟨by omega, hs.2⟩
    · have h2c := h2 c hl hk
      obtain ⟨c0, c1, rfl⟩ := l2 hl
      exact snd_pj2 h1 h2c
  · obtain ⟨j0, j1, j2, hj⟩ := l3 (hjl.trans h)
    obtain ⟨x0, x1, x2, rfl⟩ := l3 (hxl.trans h)
    obtain ⟨y0, y1, y2, rfl⟩ := l3 (hyl.trans h)
    rw [hj] at hx hy hg hc hlk hjb hw ⊢
    have jb0 := hjb j0 (by simp)
    have jw0 : JW j0 := by have := hw j0 (by simp); exact ⟨this.1, by omega⟩
    have jb1 := hjb j1 (by simp)
    have jw1 : JW j1 := by have := hw j1 (by simp); exact ⟨this.1, by omega⟩
    have jb2 := hjb j2 (by simp)
    have jw2 : JW j2 := by have := hw j2 (by simp); exact ⟨this.1, by omega⟩
    have inn : ∀ c0 c1 c2 : Int, okB [j0, j1, j2] [c0, c1, c2] = true → (cin j0 c0 ∧ Bn c0) ∧ (cin j1 c1 ∧ Bn c1) ∧ (cin j2 c2 ∧ Bn c2) := fun c0 c1 c2 hk => by
      simp only [okB, Bool.and_eq_true, decide_eq_true_eq, and_true] at hk
      exact ⟨⟨⟨by omega, by omega⟩, by unfold JB at jb0; unfold Bn; omega⟩, ⟨⟨by omega, by omega⟩, by unfold JB at jb1; unfold Bn; omega⟩, ⟨⟨by omega, by omega⟩, by unfold JB at jb2; unfold Bn; omega⟩⟩
    obtain ⟨⟨cix0, bnx0⟩, ⟨cix1, bnx1⟩, ⟨cix2, bnx2⟩⟩ := inn x0 x1 x2 hx
    obtain ⟨⟨ciy0, bny0⟩, ⟨ciy1, bny1⟩, ⟨ciy2, bny2⟩⟩ := inn y0 y1 y2 hy
    have h1 : SndA1 Tryz.prog 40 [.a [.l (([j0, j1, j2] : List J).map jp), .l ((msOf l 0 (nM l 0)).map mp)], .l []] (.v (.b true)) := snd_ck_3 (mr := (msOf l 0 (nM l 0)).map mp) hc
    have h2 : ∀ c : List Int, c.length = 3 → okB [j0, j1, j2] c = true → SndA1 Tryz.prog 47 [.a [.l (([j0, j1, j2] : List J).map jp), .l ((msOf l 0 (nM l 0)).map mp)], intsP c] (.v (.b true)) := fun c hl hk => by
      obtain ⟨c0, c1, c2, rfl⟩ := l3 hl
      obtain ⟨⟨cic0, bnc0⟩, ⟨cic1, bnc1⟩, ⟨cic2, bnc2⟩⟩ := inn c0 c1 c2 hk
      exact snd_ins_3 (mr := (msOf l 0 (nM l 0)).map mp) cic0 cic1 cic2 hc
    have h3 := snd_bx_3 bnx0 bnx1 bnx2
    have hib := snd_ins3 (mr := (msOf l 0 (nM l 0)).map mp) (b0 := ⟨x0, x0⟩) (b1 := ⟨x1, x1⟩) (b2 := ⟨x2, x2⟩) (by obtain ⟨p, q⟩ := cix0; unfold JB at jb0; unfold bxOk; dsimp only; omega) (by obtain ⟨p, q⟩ := cix1; unfold JB at jb1; unfold bxOk; dsimp only; omega) (by obtain ⟨p, q⟩ := cix2; unfold JB at jb2; unfold bxOk; dsimp only; omega) hc
    have h4 := snd_hd0 h1 hib hlk
    refine snd_ext3 (ok := okB [j0, j1, j2]) (D := fun c => dst [j0, j1, j2] c [y0, y1, y2]) k ⟨by omega, hs.2⟩ hy hg (by omega) h1 h2 h3 h4 (fun c hl hk => ?_) (fun c d hl hk => ?_) (fun c hl hk => ?_)
    · obtain ⟨c0, c1, c2, rfl⟩ := l3 hl
      obtain ⟨⟨cic0, bnc0⟩, ⟨cic1, bnc1⟩, ⟨cic2, bnc2⟩⟩ := inn c0 c1 c2 hk
      exact snd_dist3 (mr := (msOf l 0 (nM l 0)).map mp) jw0 jw1 jw2 bnc0 bnc1 bnc2 bny0 bny1 bny2 hc
    · obtain ⟨c0, c1, c2, rfl⟩ := l3 hl
      obtain ⟨⟨cic0, bnc0⟩, ⟨cic1, bnc1⟩, ⟨cic2, bnc2⟩⟩ := inn c0 c1 c2 hk
      rw [← nxt_nxs (by rfl)]
      exact snd_tw3 bnc0 bny0 bnc1 bny1 bnc2 bny2 ⟨by omega, hs.2⟩
    · have h2c := h2 c hl hk
      obtain ⟨c0, c1, c2, rfl⟩ := l3 hl
      exact snd_pj3 h1 h2c
def decI : PV → List Int
  | .l rows => rows.map fun r => match r with
    | [.n _ x] => x
    | _ => 0
  | _ => []
theorem decI_ints (L : List Int) : decI (intsP L) = L := by
  show List.map _ (List.map _ L) = L
  rw [List.map_map]
  exact (List.map_congr_left fun x _ => rfl).trans (List.map_id L)
noncomputable def kk (l : List Int) (i : Nat) (p : PV) : Int := (cfgOf l (decI p)).getD i 0
def zz (L : List (List Int)) (i v : Nat) : Int := (L.getD v []).getD i 0
theorem rows_lf {L : List (List Int)} {g : Nat → List PV} (h : ∀ (v : Nat) (e : List Int), L[v]? = some e → g v = [intsP e]) : L.map (fun v => [intsP v]) = (List.range L.length).map g := by
  refine List.ext_getElem? fun i => ?_
  rw [List.getElem?_map, List.getElem?_map]
  rcases Nat.lt_or_ge i L.length with hi | hi
  · have e : L[i]? = some L[i] := List.getElem?_eq_getElem hi
    rw [e, List.getElem?_range hi, Option.map_some, Option.map_some, h i _ e]
  · rw [List.getElem?_eq_none hi, List.getElem?_eq_none (by simpa using hi)]
    rfl
theorem snd_lf {f : Nat} {ps : List PV} {rows : List (List PV)} {m : Nat} {g : Nat → List PV} {z : PV} (e : rows = (List.range m).map g) (h : SndA1 Tryz.prog f ps (.v (.t [.l rows, z]))) : SndA1 Tryz.prog f ps (.v (.t [.lf m g, z])) := by
  refine ⟨h.1, fun w F vals hF hal => (h.2 w F vals hF hal).mono ?_⟩
  rintro en w' ⟨v, F', he, hg, f1, f2, hr⟩
  refine ⟨v, F', he, hg, f1, f2, ?_⟩
  have hr' : RP F' w' (.t [.l rows, z]) v := hr
  show RP F' w' (.t [.lf m g, z]) v
  cases hr' with
  | t _ vs hl hh =>
    refine .t _ vs (by simpa using hl) fun i p u hp hu => ?_
    match i with
    | 0 =>
      cases hp
      exact .lf _ _ _ (e ▸ hh 0 _ u rfl hu)
    | i + 1 => exact hh (i + 1) p u hp hu
theorem snd_round9 {q : Int} : SndA1 Tryz.prog 16 [.n .i64 q, .n .i64 9] (.v (.n .i64 (q % 9))) := snd_of_rets (yW Tryz.func16 (by kernel_rfl) (by kernel_rfl)) rfl rfl (fun w => mRound _ _ (by decide) w)
theorem snd_straight {l a b : List Int} {q : Int} (hl : l.length ≤ 9223372036854775807) (ha : a.length ≤ 9223372036854775807) (hb : b.length ≤ 9223372036854775807) (haw : SndA1 Tryz.prog 23 [] (.v (.b true))) : SndA1 Tryz.prog 9 [intsP l, intsP a, intsP b, .n .i64 q] (.v (.b true)) := by
  have hn := nJ_b l 0
  have hjl := jsOf_len l 0 (nJ l 0)
  have hR : SndA1 Tryz.prog 10 [intsP l] (.v (robP l)) := snd_robot hl
  have hA := snd_cfg (l := l) ha
  have hB := snd_cfg (l := l) hb
  have hx := cfgOf_ok l a
  have hy := cfgOf_ok l b
  have hw := made_w l
  have hjb := jsOf_b l 0 (nJ l 0)
  have hrc := snd_rchk l
  have hws := wsum_le _ hw
  rw [hjl] at hws
  have d0 := dst_nn (jsOf l 0 (nJ l 0)).1 (cfgOf l a) (cfgOf l b) fun j hj => (hw j hj).1
  have d1 := dst_ub hw hjb hx hy
  have hu : 0 ≤ q % 9 ∧ q % 9 < 9 := ⟨Int.emod_nonneg _ (by decide), Int.emod_lt_of_pos _ (by decide)⟩
  obtain ⟨D, hD⟩ : ∃ D, dst (jsOf l 0 (nJ l 0)).1 (cfgOf l a) (cfgOf l b) = D := ⟨_, rfl⟩
  rw [hD] at d0 d1
  have hst : (IntKind.i64.wrap ((IntKind.i64.wrap (D.tdiv 5)) + (IntKind.i64.wrap (64 * (IntKind.i64.wrap (1 + q % 9)))))) = D / 5 + 64 * (1 + q % 9) := by
    rw [Int.tdiv_eq_ediv_of_nonneg d0, zG (x := D / 5) (by omega), zG (x := 1 + q % 9) (by omega), zG (x := 64 * (1 + q % 9)) (by omega), zG (by omega)]
  obtain ⟨rest, hr9, hbt, hex⟩ := ext_ex (l := l) (s := D / 5 + 64 * (1 + q % 9)) hx hy (by omega) (by rw [hD]; omega)
  have hrd : SndA1 Tryz.prog 34 [robP l, intsP (cfgOf l a), intsP (cfgOf l b)] (.v (.n .i64 D)) := by
    rw [← hD]
    have hxl := cfgOf_len l a
    have hyl := cfgOf_len l b
    unfold robP at hrc ⊢
    generalize cfgOf l a = x at *
    generalize cfgOf l b = y at *
    rcases (by omega : nJ l 0 = 1 ∨ nJ l 0 = 2 ∨ nJ l 0 = 3) with h | h | h
    · obtain ⟨j0, hj⟩ := l1 (hjl.trans h)
      obtain ⟨x0, rfl⟩ := l1 (hxl.trans h)
      obtain ⟨y0, rfl⟩ := l1 (hyl.trans h)
      rw [hj] at hx hy hrc hjb hw ⊢
      simp only [okB, Bool.and_eq_true, decide_eq_true_eq, and_true] at hx hy
      have jb0 := hjb j0 (by simp)
      have jw0 : JW j0 := by have := hw j0 (by simp); exact ⟨this.1, by omega⟩
      unfold JB at jb0
      exact snd_rdist1 (mr := (msOf l 0 (nM l 0)).map mp) jw0 (by unfold Bn; omega) (by unfold Bn; omega) hrc
    · obtain ⟨j0, j1, hj⟩ := l2 (hjl.trans h)
      obtain ⟨x0, x1, rfl⟩ := l2 (hxl.trans h)
      obtain ⟨y0, y1, rfl⟩ := l2 (hyl.trans h)
      rw [hj] at hx hy hrc hjb hw ⊢
      simp only [okB, Bool.and_eq_true, decide_eq_true_eq, and_true] at hx hy
      have jb0 := hjb j0 (by simp)
      have jw0 : JW j0 := by have := hw j0 (by simp); exact ⟨this.1, by omega⟩
      unfold JB at jb0
      have jb1 := hjb j1 (by simp)
      have jw1 : JW j1 := by have := hw j1 (by simp); exact ⟨this.1, by omega⟩
      unfold JB at jb1
      exact snd_rdist2 (mr := (msOf l 0 (nM l 0)).map mp) jw0 jw1 (by unfold Bn; omega) (by unfold Bn; omega) (by unfold Bn; omega) (by unfold Bn; omega) hrc
    · obtain ⟨j0, j1, j2, hj⟩ := l3 (hjl.trans h)
      obtain ⟨x0, x1, x2, rfl⟩ := l3 (hxl.trans h)
      obtain ⟨y0, y1, y2, rfl⟩ := l3 (hyl.trans h)
      rw [hj] at hx hy hrc hjb hw ⊢
      simp only [okB, Bool.and_eq_true, decide_eq_true_eq, and_true] at hx hy
      have jb0 := hjb j0 (by simp)
      have jw0 : JW j0 := by have := hw j0 (by simp); exact ⟨this.1, by omega⟩
      unfold JB at jb0
      have jb1 := hjb j1 (by simp)
      have jw1 : JW j1 := by have := hw j1 (by simp); exact ⟨this.1, by omega⟩
      unfold JB at jb1
      have jb2 := hjb j2 (by simp)
      have jw2 : JW j2 := by have := hw j2 (by simp); exact ⟨this.1, by omega⟩
      unfold JB at jb2
      exact snd_rdist3 (mr := (msOf l 0 (nM l 0)).map mp) jw0 jw1 jw2 (by unfold Bn; omega) (by unfold Bn; omega) (by unfold Bn; omega) (by unfold Bn; omega) (by unfold Bn; omega) (by unfold Bn; omega) hrc
  rw [← hst] at hex
  have hel : ∀ e ∈ cfgOf l a :: rest, Btw (cfgOf l a) (cfgOf l b) e := fun e he => by
    rcases List.mem_cons.1 he with rfl | he
    · exact btw_l _ _ ((cfgOf_len l a).trans (cfgOf_len l b).symm)
    · exact hbt e he
  have hxl := cfgOf_len l a
  have hyl := cfgOf_len l b
  rcases (by omega : nJ l 0 = 1 ∨ nJ l 0 = 2 ∨ nJ l 0 = 3) with h | h | h
  · obtain ⟨x0, hx2⟩ := l1 (hxl.trans h)
    obtain ⟨y0, hy2⟩ := l1 (hyl.trans h)
    have ka0 : kk l 0 (intsP a) = x0 := by unfold kk; rw [decI_ints, hx2]; rfl
    have kb0 : kk l 0 (intsP b) = y0 := by unfold kk; rw [decI_ints, hy2]; rfl
    rw [hx2, hy2] at hrd hex hel
    rw [hx2] at hA
    rw [hy2] at hB
    have hcs : ∀ (v : Nat) (e : List Int), ([x0] :: rest)[v]? = some e → ∃ e0, e = [e0] ∧ (min x0 y0 ≤ e0 ∧ e0 ≤ max x0 y0) := fun v e he => by
      have hb := hel e (List.mem_of_getElem? he)
      match e, hb with
      | [e0], hb => exact ⟨e0, rfl, hb.1⟩
    have hzv : ∀ (v : Nat) (e : List Int), ([x0] :: rest)[v]? = some e → fl1 (zz ([x0] :: rest) 0) v = [intsP e] := fun v e he => by
      obtain ⟨e0, rfl, _⟩ := hcs v e he
      have hz : ([x0] :: rest).getD v [] = [e0] := by rw [List.getD_eq_getElem?_getD, he]; rfl
      unfold fl1 zz
      rw [hz]
      rfl
    have hex2 := snd_lf (rows_lf hzv) hex
    refine snd_str1 (L := l.map fun x => [.n .i64 x]) (A := a.map fun x => [.n .i64 x]) (B := b.map fun x => [.n .i64 x]) (q := q) (u := q % 9) (D := D) (m := ([x0] :: rest).length) (k0 := kk l 0) (z0 := zz ([x0] :: rest) 0) (by simp only [List.length_cons]; omega) (fun v hv => ?_) hR ?_ ?_ ?_ snd_round9 ?_ haw
    · have he : ([x0] :: rest)[v]? = some (([x0] :: rest)[v]'hv) := List.getElem?_eq_getElem hv
      obtain ⟨e0, h0, hq⟩ := hcs v _ he
      show (min (kk l 0 (intsP a)) (kk l 0 (intsP b)) ≤ zz ([x0] :: rest) 0 v ∧ zz ([x0] :: rest) 0 v ≤ max (kk l 0 (intsP a)) (kk l 0 (intsP b)))
      rw [ka0, kb0]
      have hz : ([x0] :: rest).getD v [] = [e0] := by rw [List.getD_eq_getElem?_getD, he, h0]; rfl
      unfold zz
      rw [hz]
      exact hq
    · show SndA1 _ _ _ (.v (intsP [kk l 0 (intsP a)]))
      rw [ka0]
      exact hA
    · show SndA1 _ _ _ (.v (intsP [kk l 0 (intsP b)]))
      rw [kb0]
      exact hB
    · show SndA1 _ _ [_, intsP [kk l 0 (intsP a)], intsP [kk l 0 (intsP b)]] _
      rw [ka0, kb0]
      exact hrd
    · show SndA1 _ _ [_, _, intsP [kk l 0 (intsP a)], intsP [kk l 0 (intsP b)], _, _, _] _
      rw [ka0, kb0]
      exact hex2
  · obtain ⟨x0, x1, hx2⟩ := l2 (hxl.trans h)
    obtain ⟨y0, y1, hy2⟩ := l2 (hyl.trans h)
    have ka0 : kk l 0 (intsP a) = x0 := by unfold kk; rw [decI_ints, hx2]; rfl
    have kb0 : kk l 0 (intsP b) = y0 := by unfold kk; rw [decI_ints, hy2]; rfl
    have ka1 : kk l 1 (intsP a) = x1 := by unfold kk; rw [decI_ints, hx2]; rfl
    have kb1 : kk l 1 (intsP b) = y1 := by unfold kk; rw [decI_ints, hy2]; rfl
    rw [hx2, hy2] at hrd hex hel
    rw [hx2] at hA
    rw [hy2] at hB
    have hcs : ∀ (v : Nat) (e : List Int), ([x0, x1] :: rest)[v]? = some e → ∃ e0 e1, e = [e0, e1] ∧ (min x0 y0 ≤ e0 ∧ e0 ≤ max x0 y0) ∧ (min x1 y1 ≤ e1 ∧ e1 ≤ max x1 y1) := fun v e he => by
      have hb := hel e (List.mem_of_getElem? he)
      match e, hb with
      | [e0, e1], hb => exact ⟨e0, e1, rfl, hb.1, hb.2.1⟩
    have hzv : ∀ (v : Nat) (e : List Int), ([x0, x1] :: rest)[v]? = some e → fl2 (zz ([x0, x1] :: rest) 0) (zz ([x0, x1] :: rest) 1) v = [intsP e] := fun v e he => by
      obtain ⟨e0, e1, rfl, _⟩ := hcs v e he
      have hz : ([x0, x1] :: rest).getD v [] = [e0, e1] := by rw [List.getD_eq_getElem?_getD, he]; rfl
      unfold fl2 zz
      rw [hz]
      rfl
    have hex2 := snd_lf (rows_lf hzv) hex
    refine snd_str2 (L := l.map fun x => [.n .i64 x]) (A := a.map fun x => [.n .i64 x]) (B := b.map fun x => [.n .i64 x]) (q := q) (u := q % 9) (D := D) (m := ([x0, x1] :: rest).length) (k0 := kk l 0) (k1 := kk l 1) (z0 := zz ([x0, x1] :: rest) 0) (z1 := zz ([x0, x1] :: rest) 1) (by simp only [List.length_cons]; omega) (fun v hv => ?_) hR ?_ ?_ ?_ snd_round9 ?_ haw
    · have he : ([x0, x1] :: rest)[v]? = some (([x0, x1] :: rest)[v]'hv) := List.getElem?_eq_getElem hv
      obtain ⟨e0, e1, h0, hq⟩ := hcs v _ he
      show (min (kk l 0 (intsP a)) (kk l 0 (intsP b)) ≤ zz ([x0, x1] :: rest) 0 v ∧ zz ([x0, x1] :: rest) 0 v ≤ max (kk l 0 (intsP a)) (kk l 0 (intsP b))) ∧ (min (kk l 1 (intsP a)) (kk l 1 (intsP b)) ≤ zz ([x0, x1] :: rest) 1 v ∧ zz ([x0, x1] :: rest) 1 v ≤ max (kk l 1 (intsP a)) (kk l 1 (intsP b)))
      rw [ka0, ka1, kb0, kb1]
      have hz : ([x0, x1] :: rest).getD v [] = [e0, e1] := by rw [List.getD_eq_getElem?_getD, he, h0]; rfl
      unfold zz
      rw [hz]
      exact hq
    · show SndA1 _ _ _ (.v (intsP [kk l 0 (intsP a), kk l 1 (intsP a)]))
      rw [ka0, ka1]
      exact hA
    · show SndA1 _ _ _ (.v (intsP [kk l 0 (intsP b), kk l 1 (intsP b)]))
      rw [kb0, kb1]
      exact hB
    · show SndA1 _ _ [_, intsP [kk l 0 (intsP a), kk l 1 (intsP a)], intsP [kk l 0 (intsP b), kk l 1 (intsP b)]] _
      rw [ka0, ka1, kb0, kb1]
      exact hrd
    · show SndA1 _ _ [_, _, intsP [kk l 0 (intsP a), kk l 1 (intsP a)], intsP [kk l 0 (intsP b), kk l 1 (intsP b)], _, _, _] _
      rw [ka0, ka1, kb0, kb1]
      exact hex2
  · obtain ⟨x0, x1, x2, hx2⟩ := l3 (hxl.trans h)
    obtain ⟨y0, y1, y2, hy2⟩ := l3 (hyl.trans h)
    have ka0 : kk l 0 (intsP a) = x0 := by unfold kk; rw [decI_ints, hx2]; rfl
    have kb0 : kk l 0 (intsP b) = y0 := by unfold kk; rw [decI_ints, hy2]; rfl
    have ka1 : kk l 1 (intsP a) = x1 := by unfold kk; rw [decI_ints, hx2]; rfl
    have kb1 : kk l 1 (intsP b) = y1 := by unfold kk; rw [decI_ints, hy2]; rfl
    have ka2 : kk l 2 (intsP a) = x2 := by unfold kk; rw [decI_ints, hx2]; rfl
    have kb2 : kk l 2 (intsP b) = y2 := by unfold kk; rw [decI_ints, hy2]; rfl
    rw [hx2, hy2] at hrd hex hel
    rw [hx2] at hA
    rw [hy2] at hB
    have hcs : ∀ (v : Nat) (e : List Int), ([x0, x1, x2] :: rest)[v]? = some e → ∃ e0 e1 e2, e = [e0, e1, e2] ∧ (min x0 y0 ≤ e0 ∧ e0 ≤ max x0 y0) ∧ (min x1 y1 ≤ e1 ∧ e1 ≤ max x1 y1) ∧ (min x2 y2 ≤ e2 ∧ e2 ≤ max x2 y2) := fun v e he => by
      have hb := hel e (List.mem_of_getElem? he)
      match e, hb with
      | [e0, e1, e2], hb => exact ⟨e0, e1, e2, rfl, hb.1, hb.2.1, hb.2.2.1⟩
    have hzv : ∀ (v : Nat) (e : List Int), ([x0, x1, x2] :: rest)[v]? = some e → fl3 (zz ([x0, x1, x2] :: rest) 0) (zz ([x0, x1, x2] :: rest) 1) (zz ([x0, x1, x2] :: rest) 2) v = [intsP e] := fun v e he => by
      obtain ⟨e0, e1, e2, rfl, _⟩ := hcs v e he
      have hz : ([x0, x1, x2] :: rest).getD v [] = [e0, e1, e2] := by rw [List.getD_eq_getElem?_getD, he]; rfl
      unfold fl3 zz
      rw [hz]
      rfl
    have hex2 := snd_lf (rows_lf hzv) hex
    refine snd_str3 (L := l.map fun x => [.n .i64 x]) (A := a.map fun x => [.n .i64 x]) (B := b.map fun x => [.n .i64 x]) (q := q) (u := q % 9) (D := D) (m := ([x0, x1, x2] :: rest).length) (k0 := kk l 0) (k1 := kk l 1) (k2 := kk l 2) (z0 := zz ([x0, x1, x2] :: rest) 0) (z1 := zz ([x0, x1, x2] :: rest) 1) (z2 := zz ([x0, x1, x2] :: rest) 2) (by simp only [List.length_cons]; omega) (fun v hv => ?_) hR ?_ ?_ ?_ snd_round9 ?_ haw
    · have he : ([x0, x1, x2] :: rest)[v]? = some (([x0, x1, x2] :: rest)[v]'hv) := List.getElem?_eq_getElem hv
      obtain ⟨e0, e1, e2, h0, hq⟩ := hcs v _ he
      show (min (kk l 0 (intsP a)) (kk l 0 (intsP b)) ≤ zz ([x0, x1, x2] :: rest) 0 v ∧ zz ([x0, x1, x2] :: rest) 0 v ≤ max (kk l 0 (intsP a)) (kk l 0 (intsP b))) ∧ (min (kk l 1 (intsP a)) (kk l 1 (intsP b)) ≤ zz ([x0, x1, x2] :: rest) 1 v ∧ zz ([x0, x1, x2] :: rest) 1 v ≤ max (kk l 1 (intsP a)) (kk l 1 (intsP b))) ∧ (min (kk l 2 (intsP a)) (kk l 2 (intsP b)) ≤ zz ([x0, x1, x2] :: rest) 2 v ∧ zz ([x0, x1, x2] :: rest) 2 v ≤ max (kk l 2 (intsP a)) (kk l 2 (intsP b)))
      rw [ka0, ka1, ka2, kb0, kb1, kb2]
      have hz : ([x0, x1, x2] :: rest).getD v [] = [e0, e1, e2] := by rw [List.getD_eq_getElem?_getD, he, h0]; rfl
      unfold zz
      rw [hz]
      exact hq
    · show SndA1 _ _ _ (.v (intsP [kk l 0 (intsP a), kk l 1 (intsP a), kk l 2 (intsP a)]))
      rw [ka0, ka1, ka2]
      exact hA
    · show SndA1 _ _ _ (.v (intsP [kk l 0 (intsP b), kk l 1 (intsP b), kk l 2 (intsP b)]))
      rw [kb0, kb1, kb2]
      exact hB
    · show SndA1 _ _ [_, intsP [kk l 0 (intsP a), kk l 1 (intsP a), kk l 2 (intsP a)], intsP [kk l 0 (intsP b), kk l 1 (intsP b), kk l 2 (intsP b)]] _
      rw [ka0, ka1, ka2, kb0, kb1, kb2]
      exact hrd
    · show SndA1 _ _ [_, _, intsP [kk l 0 (intsP a), kk l 1 (intsP a), kk l 2 (intsP a)], intsP [kk l 0 (intsP b), kk l 1 (intsP b), kk l 2 (intsP b)], _, _, _] _
      rw [ka0, ka1, ka2, kb0, kb1, kb2]
      exact hex2
end Go.Proofs.YtnlnbnjnapofmaaGreat.Ph

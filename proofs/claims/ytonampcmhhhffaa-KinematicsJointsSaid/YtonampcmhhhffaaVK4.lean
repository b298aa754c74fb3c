/- What making a scene computes. No condition. -/
import Derived.Test.YtonampcmhhhffaaProg
import Derived.Test.YtonampcmhhhffaaVRob
import Derived.Test.YtonampcmhhhffaaVA1
import Derived.Test.YtonampcmhhhffaaVA2
import Derived.Test.YtonampcmhhhffaaVSrc
import Derived.Test.YtonampcmhhhffaaVK1
import Derived.Test.YtonampcmhhhffaaVK3
namespace Go.Proofs.Ytonampcmhhhffaa
open Go.Sx
theorem ze78 : zeroIs Try.prog 78 (.agg #[.slice none 0 0, .slice none 0 0, .slice none 0 0, .slice none 0 0]) := by unfold zeroIs; kernel_rfl
theorem en26 : Enters Try.prog 26 := enters_of Try.func26 (by kernel_rfl) (by kernel_rfl)
theorem en98 : Enters Try.prog 98 := enters_of Try.func98 (by kernel_rfl) (by kernel_rfl)
theorem la78 : layoutOf Try.prog 78 = some ([.slice none 0 0, .slice none 0 0, .slice none 0 0, .slice none 0 0], [(0, 2), (2, 1), (3, 1)]) := by kernel_rfl
theorem ty78 : tyB Try.prog 78 true 4 = true := by kernel_rfl
theorem fa78_0 : fieldB Try.prog 78 0 0 = true := by kernel_rfl
theorem fa78_1 : fieldB Try.prog 78 1 2 = true := by kernel_rfl
theorem ty75 : tyB Try.prog 75 false 1 = true := by kernel_rfl
theorem en99 : Enters Try.prog 99 := enters_of Try.func99 (by kernel_rfl) (by kernel_rfl)
theorem la116 : layoutOf Try.prog 116 = some ([.int .i64 0, .int .i64 0, .slice none 0 0], [(0, 1), (1, 1), (2, 1)]) := by kernel_rfl
theorem sl75 : slcB Try.prog 75 116 3 = true := by kernel_rfl
theorem ze116 : zeroIs Try.prog 116 (.agg #[.int .i64 0, .int .i64 0, .slice none 0 0]) := by unfold zeroIs; kernel_rfl
theorem app75 : appB Try.prog 75 116 3 40 = true := by kernel_rfl
theorem fa78_2 : fieldB Try.prog 78 2 3 = true := by kernel_rfl
theorem ty76 : tyB Try.prog 76 false 1 = true := by kernel_rfl
theorem la118 : layoutOf Try.prog 118 = some ([.int .i64 0, .int .i64 0], [(0, 1), (1, 1)]) := by kernel_rfl
theorem sl76 : slcB Try.prog 76 118 2 = true := by kernel_rfl
theorem ze118 : zeroIs Try.prog 118 (.agg #[.int .i64 0, .int .i64 0]) := by unfold zeroIs; kernel_rfl
theorem app76 : appB Try.prog 76 118 2 16 = true := by kernel_rfl

theorem ob_val {x : Int} {n : Nat} (h : x = (n : Int)) (hn : n ≤ 1000) : IntKind.i64.wrap x = (n : Int) := by
  rw [h]; exact i64_in (by omega)
theorem rad8 {a : Int} (ha : 0 ≤ a ∧ a < 4) : IntKind.i64.wrap (((1 + a) * 65536).tdiv 8) = ((1 + a) * 65536).tdiv 8 := i64_in (by
  rw [Int.tdiv_eq_ediv_of_nonneg (by omega)]; omega)

theorem scene_end {l : List Int} {w w2 : World} {aj am a ak : Option Addr} {cj cm cap cs m q ns : Nat} {ss : List Sp} {ds : List Ad} {rows : List (List Value)} (hsh : shB l (obN l) = (ss, q)) (hm : m = ss.length) (hl : ds.length = m) (hs : skN l = ns ∧ skR l = rows) (hg : Grow w w2)
    (h1 : Go.Sx.Told w.heap.size (fun w => SlcIs 12 aj ((jsOf l 0 (nJ l 0)).1.map jc) w ∧ SlcIs 5 am ((msOf l 0 (nM l 0)).map mc) w) w2) (h2 : Go.Sx.Told w.heap.size (SlcIs 3 a (spRows ss ds)) w2) (h3 : Go.Sx.Told w.heap.size (PtsF ss ds) w2) (h4 : Go.Sx.Told w.heap.size (SlcIs 2 ak rows) w2) :
    RetsF (X := ScX) (scP l) (scV l) (scF l) w (.returned (.agg #[.slice aj (nJ l 0) cj, .slice am (nM l 0) cm, .slice a m cap, .slice ak ns cs])) w2 := by
  refine ⟨((aj, cj), (am, cm), (a, cap), (ak, cs), ds), ?_, ?_, hg, ?_⟩
  · show ds.length = (shB l (obN l)).1.length
    rw [hsh, hl, hm]
  · show _ = Ending.returned (scV l _)
    unfold scV
    rw [hsh, hs.1, hm]
  · have e : scF l ((aj, cj), (am, cm), (a, cap), (ak, cs), ds) = fun w => (SlcIs 12 aj ((jsOf l 0 (nJ l 0)).1.map jc) w ∧ SlcIs 5 am ((msOf l 0 (nM l 0)).map mc) w) ∧ (SlcIs 3 a (spRows ss ds) w ∧ PtsF ss ds w) ∧ SlcIs 2 ak rows w := by
      unfold scF
      rw [hsh, hs.2]
    rw [e]
    exact told_and h1 (told_and (told_and h2 h3) h4)
theorem own2_slc {a : Option Addr} {cap : Nat} {e : TypeId} {w : World} {x y : Value} (h : OwnF 0 e 2 a cap 1 [x, y] w) : SlcIs 2 a [[x, y]] w := own_slc (m := 0) (e := e) (cap := cap) (by simp) h
theorem slc_nil {sz : Nat} {a : Option Addr} (w : World) : SlcIs sz a [] w := fun j r h => by simp at h

theorem mkScene (lv : Value) (l : List Int) (w : World) (hl : IntsAt w w.heap.size lv l) : Calls Try.prog 56 [lv].toArray w (RetsF (X := ScX) (scP l) (scV l) (scF l) w) := by
  refine calls_of_doC (n := 89) Try.func56 rfl rfl rfl ?_
  refine doC_seq ?_
  refine doC_region ?_
  refine doL_alloc 2 ze78 rfl rfl rfl ?_; intro b2
  refine doL_nil ?_
  refine post_then ?_
  refine doC_seq ?_
  refine doC_region ?_
  refine doL_v (opV_move rfl) rfl rfl rfl ?_
  refine doL_callNew 9 en26 rfl (fun w' k => mFrom w' (intsAt_grow hl k.grow (Nat.le_refl _))) rfl rfl ?_; intro b9
  refine doL_v (opV_assign rfl) rfl rfl rfl ?_
  refine doL_nil ?_
  refine post_then ?_
  refine doC_seq ?_
  refine doC_region ?_
  refine doL_v (opV_move rfl) rfl rfl rfl ?_
  refine doL_toldB 11 9 hl rfl en98 rfl (fun w' h => mkRobot   w' h) rfl rfl rfl ?_; intro x11 Dx11 _
  obtain ⟨⟨aj, cj⟩, am, cm⟩ := x11
  dsimp only
  refine doL_v (opV_build la78 rfl rfl) rfl rfl rfl ?_
  refine doL_alloc 4 ze78 rfl rfl rfl ?_; intro b4
  refine doL_store 4 ty78 rfl rfl rfl rfl rfl rfl rfl rfl ?_
  refine doL_nil ?_
  refine post_then ?_
  refine doC_seq ?_
  refine doC_seq ?_
  refine doC_own 301 118 2 ?_
  refine doC_own 300 116 3 ?_
  refine doC_fact 200 (PtsF [] []) (fun _ => trivial) ?_
  have hn := nJ_b l 0
  have hob := obN_b l
  refine doC_region ?_
  refine doL_v (opV_assign rfl) rfl rfl rfl ?_
  refine doL_nil ?_
  refine post_then ?_
  refine doC_block ?_
  refine doC_loopK [2, 3, 4] [2] (α := Nat × Nat × Nat × Ad × List Sp × List Ad × (Nat → Prop)) (fun x => nJ l 0 - x.1) (fun x => x.1 ≤ nJ l 0 ∧ shA l x.1 = (x.2.2.2.2.1, x.2.2.1) ∧ x.2.1 = x.2.2.2.2.1.length ∧ x.2.2.2.2.2.1.length = x.2.1) (fun x => ⟨w, [(200, x.2.2.2.2.2.2, PtsF x.2.2.2.2.1 x.2.2.2.2.2.1), (300, ownD x.2.2.2.1.1, OwnF 0 116 3 x.2.2.2.1.1 x.2.2.2.1.2 x.2.1 (spC x.2.2.2.2.1 x.2.2.2.2.2.1)), (301, ownD none, OwnF 0 118 2 none 0 0 []), (11, Dx11, fun w => SlcIs 12 aj ((jsOf l 0 (nJ l 0)).1.map jc) w ∧ SlcIs 5 am ((msOf l 0 (nM l 0)).map mc) w)]⟩) (fun x => [(5, .int .i64 (x.1 : Int))]) (fun x => [(9, b9, srcC lv l x.2.2.1, 105), (4, b4, [.slice aj (nJ l 0) cj, .slice am (nM l 0) cm, .slice x.2.2.2.1.1 x.2.1 x.2.2.2.1.2, .slice none 0 0], 78)]) (0, 0, robQ l 0, (none, 0), [], [], fun _ => False) rfl rfl ?_ ?_ ?_ ?_ rfl ?_
  ·
    exact ⟨Nat.zero_le _, rfl, rfl, rfl⟩
  ·
    exact rfl
  ·
    repeat' first | exact trivial | exact True.intro | refine ⟨rfl, ?_⟩
  ·
    repeat' first | exact trivial | exact True.intro | refine ⟨rfl, ?_⟩
  rintro ⟨k, m, q, ⟨a, cap⟩, ss, ds, D⟩ ⟨hk, hsh, hm, hlen⟩
  dsimp only at hk hsh hm hlen ⊢
  have hsl := shA_len l k
  rw [hsh] at hsl
  dsimp only at hsl
  refine doC_seq ?_
  refine doC_seq ?_
  refine doC_region ?_
  refine doL_v (opV_move rfl) rfl rfl rfl ?_
  refine doL_v (opV_fieldAddr fa78_0 rfl) rfl rfl rfl ?_
  refine doL_v (opV_fieldAddr fa74_0 rfl) rfl rfl rfl ?_
  refine doL_v (opV_load1 4 ty71 rfl rfl rfl) rfl rfl rfl ?_
  refine doL_v (opV_len_slice sl71 rfl) rfl rfl rfl ?_
  refine doL_v (opV_lss rfl rfl) rfl rfl rfl ?_
  refine doL_nil ?_
  refine post_then ?_
  refine doC_cond rfl (fun hc18 => ?_) (fun hc18 => ?_)
  ·
    have h2 : k < nJ l 0 := by have := of_decide_eq_true hc18; omega
    refine doC_skip ?_
    refine post_then ?_
    refine doC_seq ?_
    refine doC_block ?_
    refine doC_seq ?_
    refine doC_region ?_
    refine doL_v (opV_move rfl) rfl rfl rfl ?_
    refine doL_srcB (F := vI) 9 hl rfl en30 rfl (fun w' h => srcNext _ (by first | omega | assumption | (unfold In64; omega) | decide) w' h) rfl rfl rfl ?_; intro r22 hr22
    have br22 := srcR_b hr22 (by first | decide | omega)
    refine doL_v (opV_lss rfl rfl) rfl rfl rfl ?_
    refine doL_nil ?_
    refine post_then ?_
    refine doC_cond rfl (fun hc23 => ?_) (fun hc23 => ?_)
    ·
      have h5 : srcR l q 5 < 4 := by have := of_decide_eq_true hc23; rw [hr22] at this; exact this
      refine doC_srcB 9 16 [4, 10, 13] rfl mo (by kernel_rfl) ?_
      simp only [List.take_succ_cons, List.take_zero, List.drop_succ_cons, List.drop_zero]
      refine doM_v (fun _ => opV_fieldAddr fa78_1 rfl) rfl rfl rfl rfl ?_
      refine doM_v (fun _ => opV_load1 4 ty75 rfl rfl rfl) rfl rfl rfl rfl ?_
      refine doM_v (fun _ => opV_move rfl) rfl rfl rfl rfl ?_
      refine doM_v (fun _ => opV_move rfl) rfl rfl rfl rfl ?_
      refine doM_srcB (F := vI) 9 hl rfl en30 rfl (fun w' h => srcNext _ (by first | omega | assumption | (unfold In64; omega) | decide) w' h) rfl rfl rfl ?_; intro r28 hr28
      have br28 := srcR_b hr28 (by first | decide | omega)
      refine doM_v (fun _ => opV_add rfl rfl (by first | exact i64_in ⟨by omega, by omega⟩ | rfl)) rfl rfl rfl rfl ?_
      refine doM_v (fun _ => opV_mul rfl rfl (by first | exact i64_in ⟨by omega, by omega⟩ | rfl)) rfl rfl rfl rfl ?_
      refine doM_v (fun _ => opV_quo rfl rfl (by first | decide | omega) (rad8 (by omega))) rfl rfl rfl rfl ?_
      refine doM_v (fun _ => opV_move rfl) rfl rfl rfl rfl ?_
      refine doM_v (fun _ => opV_move rfl) rfl rfl rfl rfl ?_
      refine doM_srcB (F := vI) 9 hl rfl en30 rfl (fun w' h => srcNext _ (by first | omega | assumption | (unfold In64; omega) | decide) w' h) rfl rfl rfl ?_; intro r34 hr34
      have br34 := srcR_b hr34 (by first | decide | omega)
      refine doM_v (fun _ => opV_mul rfl rfl (by first | exact i64_in ⟨by omega, by omega⟩ | rfl)) rfl rfl rfl rfl ?_
      refine doM_v (fun _ => opV_build la38 rfl rfl) rfl rfl rfl rfl ?_
      refine doM_toldB 9 hl rfl en99 rfl (fun w' h => mkPoints _ _ _ (by first | omega | assumption | (unfold In64; omega) | decide) w' h) rfl rfl rfl rfl ?_
      refine doM_map (T := fun _ _ => True) (famB (id := 9) rfl) 37 rfl rfl (fun _ x _ => opV_build la116 rfl rfl) (fun _ => rfl) (by decide) rfl rfl rfl rfl ?_
      refine doM_rowmap (famB (id := 9) rfl) 38 rfl sl75 ze116 rfl rfl rfl rfl (fun _ => rfl) (fun _ => rfl) (fun _ => rfl) (by decide) rfl rfl rfl ?_
      refine doM_nil ?_
      refine tail_heap rfl ?_
      refine tail_tellrow 39 rfl rfl rfl ?_; intro x39 D39 bb39 _
      refine tail_append 300 app75 rfl rfl rfl rfl rfl rfl (by omega) (by omega) rfl rfl ?_; intro a40 c40 R40 hR40
      obtain rfl := Option.some.inj hR40
      refine doL_v (opV_fieldAddr fa78_1 rfl) rfl rfl rfl ?_
      refine doL_store 4 ty75 rfl rfl rfl rfl rfl rfl rfl rfl ?_
      refine doL_nil ?_
      refine post_block_normal ?_
      refine post_then ?_
      try (subst hr28; subst hr34; refine doC_merge 200 (PtsF (ss ++ [linkSp l q k]) (ds ++ [x39])) rfl rfl (fun h1 h2 => PtsF_dep (s := linkSp l q k) (hlen.trans hm) h1 h2) (fun w h1 h2 => PtsF_snoc ss ds (linkSp l q k) x39 w (hlen.trans hm) h2 h1) ?_)
      refine doC_region ?_
      refine doL_v (opV_move rfl) rfl rfl rfl ?_
      refine doL_v (opV_add rfl rfl (inc_nat (by omega))) rfl rfl rfl ?_
      refine doL_v (opV_assign rfl) rfl rfl rfl ?_
      refine doL_nil ?_
      refine post_again (k + 1, m + 1, q + 1 + 1 + 1 + 1 + 3 * ptsN l (q + 1 + 1 + 1), (a40, c40), ss ++ [linkSp l q k], ds ++ [x39], fun z => D39 z ∨ D z) (by refine ⟨?_, ?_, ?_, ?_⟩ <;> dsimp only; omega; rw [shA_t (by rw [hsh]; exact h5), hsh]; simp [hm]; simp [hlen]) (by show nJ l 0 - (k + 1) < nJ l 0 - k; omega) (by dsimp only; rw [spC_snoc _ _ (hlen.trans hm)]; simp only [spc, linkSp, ptsOf_len]; rfl) ?_ ?_ rfl
      repeat' first | exact trivial | exact True.intro | refine ⟨rfl, ?_⟩
    ·
      have h5 : ¬ srcR l q 5 < 4 := by have := of_decide_eq_false hc23; rw [hr22] at this; exact this
      refine doC_skip ?_
      refine post_block_normal ?_
      refine post_then ?_
      try (subst hr28; subst hr34; refine doC_merge 200 (PtsF (ss ++ [linkSp l q k]) (ds ++ [x39])) rfl rfl (fun h1 h2 => PtsF_dep (s := linkSp l q k) (hlen.trans hm) h1 h2) (fun w h1 h2 => PtsF_snoc ss ds (linkSp l q k) x39 w (hlen.trans hm) h2 h1) ?_)
      refine doC_region ?_
      refine doL_v (opV_move rfl) rfl rfl rfl ?_
      refine doL_v (opV_add rfl rfl (inc_nat (by omega))) rfl rfl rfl ?_
      refine doL_v (opV_assign rfl) rfl rfl rfl ?_
      refine doL_nil ?_
      refine post_again (k + 1, m, q + 1, (a, cap), ss, ds, D) (by refine ⟨?_, ?_, ?_, ?_⟩ <;> dsimp only; omega; rw [shA_f (by rw [hsh]; exact h5), hsh]; exact hm; exact hlen) (by show nJ l 0 - (k + 1) < nJ l 0 - k; omega) rfl ?_ ?_ rfl
      repeat' first | exact trivial | exact True.intro | refine ⟨rfl, ?_⟩
  ·
    obtain rfl : k = nJ l 0 := by have := of_decide_eq_false hc18; omega
    refine doC_exit ?_
    refine post_then_exit ?_
    refine post_then_exit ?_
    refine post_block_exit ?_
    refine post_then ?_
    refine doC_seq ?_
    refine doC_seq ?_
    refine doC_region ?_
    refine doL_v (opV_move rfl) rfl rfl rfl ?_
    refine doL_srcB (F := vI) 9 hl rfl en30 rfl (fun w' h => srcNext _ (by first | omega | assumption | (unfold In64; omega) | decide) w' h) rfl rfl rfl ?_; intro r43 hr43
    have br43 := srcR_b hr43 (by first | decide | omega)
    obtain rfl : r43 = srcR l q 3 := hr43
    have hob2 : 1 + srcR l q 3 = ((obN l : Nat) : Int) := by have := hob.2.2; rw [hsh] at this; exact this.symm
    refine doL_v (opV_add rfl rfl (ob_val hob2 (by omega))) rfl rfl rfl ?_
    refine doL_v (opV_assign rfl) rfl rfl rfl ?_
    refine doL_nil ?_
    refine post_then ?_
    refine doC_block ?_
    refine doC_loopK [2, 3, 4] [2] (α := Nat × Nat × Nat × Ad × List Sp × List Ad × (Nat → Prop)) (fun x => obN l - x.1) (fun x => x.1 ≤ obN l ∧ shB l x.1 = (x.2.2.2.2.1, x.2.2.1) ∧ x.2.1 = x.2.2.2.2.1.length ∧ x.2.2.2.2.2.1.length = x.2.1) (fun x => ⟨w, [(200, x.2.2.2.2.2.2, PtsF x.2.2.2.2.1 x.2.2.2.2.2.1), (300, ownD x.2.2.2.1.1, OwnF 0 116 3 x.2.2.2.1.1 x.2.2.2.1.2 x.2.1 (spC x.2.2.2.2.1 x.2.2.2.2.2.1)), (301, ownD none, OwnF 0 118 2 none 0 0 []), (11, Dx11, fun w => SlcIs 12 aj ((jsOf l 0 (nJ l 0)).1.map jc) w ∧ SlcIs 5 am ((msOf l 0 (nM l 0)).map mc) w)]⟩) (fun x => [(6, .int .i64 ((obN l - x.1 : Nat) : Int))]) (fun x => [(9, b9, srcC lv l x.2.2.1, 105), (4, b4, [.slice aj (nJ l 0) cj, .slice am (nM l 0) cm, .slice x.2.2.2.1.1 x.2.1 x.2.2.2.1.2, .slice none 0 0], 78)]) (0, m, q + 1, (a, cap), ss, ds, D) rfl rfl ?_ ?_ ?_ ?_ rfl ?_
    ·
      exact ⟨Nat.zero_le _, by show ((shA l (nJ l 0)).1, (shA l (nJ l 0)).2 + 1) = _; rw [hsh], hm, hlen⟩
    ·
      exact rfl
    ·
      repeat' first | exact trivial | exact True.intro | refine ⟨rfl, ?_⟩
    ·
      repeat' first | exact trivial | exact True.intro | refine ⟨rfl, ?_⟩
    rintro ⟨k2, m2, q2, ⟨a2, cap2⟩, ss2, ds2, D2⟩ ⟨hk2, hsh2, hm2, hlen2⟩
    dsimp only at hk2 hsh2 hm2 hlen2 ⊢
    have hsl2 := shB_len l k2
    rw [hsh2] at hsl2
    dsimp only at hsl2
    refine doC_seq ?_
    refine doC_seq ?_
    refine doC_region ?_
    refine doL_v (opV_move rfl) rfl rfl rfl ?_
    refine doL_v (opV_gtr rfl rfl) rfl rfl rfl ?_
    refine doL_nil ?_
    refine post_then ?_
    refine doC_cond rfl (fun hc46 => ?_) (fun hc46 => ?_)
    ·
      have h6 : k2 < obN l := by have := of_decide_eq_true hc46; omega
      refine doC_skip ?_
      refine post_then ?_
      refine doC_seq ?_
      refine doC_block ?_
      refine doC_seq ?_
      refine doC_region ?_
      refine doL_v (opV_move rfl) rfl rfl rfl ?_
      refine doL_srcB (F := vI) 9 hl rfl en28 rfl (fun w' h => srcSigned _ (by first | omega | assumption | (unfold In64; omega) | decide) w' h) rfl rfl rfl ?_; intro r50 hr50
      have br50 := srcS_b hr50 (by first | decide | omega)
      refine doL_v (opV_mul rfl rfl (by first | exact i64_in ⟨by omega, by omega⟩ | rfl)) rfl rfl rfl ?_
      refine doL_v (opV_move rfl) rfl rfl rfl ?_
      refine doL_srcB (F := vI) 9 hl rfl en28 rfl (fun w' h => srcSigned _ (by first | omega | assumption | (unfold In64; omega) | decide) w' h) rfl rfl rfl ?_; intro r53 hr53
      have br53 := srcS_b hr53 (by first | decide | omega)
      refine doL_v (opV_mul rfl rfl (by first | exact i64_in ⟨by omega, by omega⟩ | rfl)) rfl rfl rfl ?_
      refine doL_v (opV_move rfl) rfl rfl rfl ?_
      refine doL_srcB (F := vI) 9 hl rfl en28 rfl (fun w' h => srcSigned _ (by first | omega | assumption | (unfold In64; omega) | decide) w' h) rfl rfl rfl ?_; intro r56 hr56
      have br56 := srcS_b hr56 (by first | decide | omega)
      refine doL_v (opV_mul rfl rfl (by first | exact i64_in ⟨by omega, by omega⟩ | rfl)) rfl rfl rfl ?_
      refine doL_v (opV_build la38 rfl rfl) rfl rfl rfl ?_
      refine doL_alloc 7 ze38 rfl rfl rfl ?_; intro b7
      refine doL_store 7 ty38 rfl rfl rfl rfl rfl rfl rfl rfl ?_
      refine doL_nil ?_
      refine post_then ?_
      refine doC_srcB 9 12 [3, 9] rfl mo (by kernel_rfl) ?_
      simp only [List.take_succ_cons, List.take_zero, List.drop_succ_cons, List.drop_zero]
      refine doM_v (fun _ => opV_fieldAddr fa78_1 rfl) rfl rfl rfl rfl ?_
      refine doM_v (fun _ => opV_load1 4 ty75 rfl rfl rfl) rfl rfl rfl rfl ?_
      refine doM_v (fun _ => opV_move rfl) rfl rfl rfl rfl ?_
      refine doM_srcB (F := vI) 9 hl rfl en30 rfl (fun w' h => srcNext _ (by first | omega | assumption | (unfold In64; omega) | decide) w' h) rfl rfl rfl ?_; intro r62 hr62
      have br62 := srcR_b hr62 (by first | decide | omega)
      refine doM_v (fun _ => opV_add rfl rfl (by first | exact i64_in ⟨by omega, by omega⟩ | rfl)) rfl rfl rfl rfl ?_
      refine doM_v (fun _ => opV_mul rfl rfl (by first | exact i64_in ⟨by omega, by omega⟩ | rfl)) rfl rfl rfl rfl ?_
      refine doM_v (fun _ => opV_quo rfl rfl (by first | decide | omega) (rad8 (by omega))) rfl rfl rfl rfl ?_
      refine doM_v (fun _ => opV_move rfl) rfl rfl rfl rfl ?_
      refine doM_v (fun _ => opV_loadA 7 ty38 rfl rfl rfl) rfl rfl rfl rfl ?_
      refine doM_toldB 9 hl rfl en99 rfl (fun w' h => mkPoints _ _ _ (by first | omega | assumption | (unfold In64; omega) | decide) w' h) rfl rfl rfl rfl ?_
      refine doM_map (T := fun _ _ => True) (famB (id := 9) rfl) 68 rfl rfl (fun _ x _ => opV_build la116 rfl rfl) (fun _ => rfl) (by decide) rfl rfl rfl rfl ?_
      refine doM_rowmap (famB (id := 9) rfl) 69 rfl sl75 ze116 rfl rfl rfl rfl (fun _ => rfl) (fun _ => rfl) (fun _ => rfl) (by decide) rfl rfl rfl ?_
      refine doM_nil ?_
      refine tail_heap rfl ?_
      refine tail_tellrow 70 rfl rfl rfl ?_; intro x70 D70 bb70 _
      refine tail_append 300 app75 rfl rfl rfl rfl rfl rfl (by omega) (by omega) rfl rfl ?_; intro a71 c71 R71 hR71
      obtain rfl := Option.some.inj hR71
      refine doL_v (opV_fieldAddr fa78_1 rfl) rfl rfl rfl ?_
      refine doL_store 4 ty75 rfl rfl rfl rfl rfl rfl rfl rfl ?_
      refine doL_nil ?_
      refine post_block_normal ?_
      refine post_then ?_
      subst hr50; subst hr53; subst hr56; subst hr62
      refine doC_merge 200 (PtsF (ss2 ++ [obSp l q2]) (ds2 ++ [x70])) rfl rfl (fun h1 h2 => PtsF_dep (s := obSp l q2) (hlen2.trans hm2) h1 h2) (fun w h1 h2 => PtsF_snoc ss2 ds2 (obSp l q2) x70 w (hlen2.trans hm2) h2 h1) ?_
      refine doC_region ?_
      refine doL_v (opV_move rfl) rfl rfl rfl ?_
      refine doL_v (opV_sub rfl rfl (dec_rem (by omega) h6)) rfl rfl rfl ?_
      refine doL_v (opV_assign rfl) rfl rfl rfl ?_
      refine doL_nil ?_
      refine post_again (k2 + 1, m2 + 1, q2 + 1 + 1 + 1 + 1 + 1 + 3 * ptsN l (q2 + 1 + 1 + 1 + 1), (a71, c71), ss2 ++ [obSp l q2], ds2 ++ [x70], fun z => D70 z ∨ D2 z) (by refine ⟨?_, ?_, ?_, ?_⟩ <;> dsimp only; omega; show ((shB l k2).1 ++ [obSp l (shB l k2).2], _) = _; rw [hsh2]; simp [hm2]; simp [hlen2]) (by show obN l - (k2 + 1) < obN l - k2; omega) (by dsimp only; rw [spC_snoc _ _ (hlen2.trans hm2)]; simp only [spc, obSp, ptsOf_len]; rfl) ?_ ?_ rfl
      repeat' first | exact trivial | exact True.intro | refine ⟨rfl, ?_⟩
    ·
      obtain rfl : k2 = obN l := by have := of_decide_eq_false hc46; omega
      refine doC_exit ?_
      refine post_then_exit ?_
      refine post_then_exit ?_
      refine post_block_exit ?_
      refine post_then ?_
      refine doC_seq ?_
      refine doC_seq ?_
      refine doC_region ?_
      refine doL_v (opV_move rfl) rfl rfl rfl ?_
      refine doL_srcB (F := vI) 9 hl rfl en30 rfl (fun w' h => srcNext _ (by first | omega | assumption | (unfold In64; omega) | decide) w' h) rfl rfl rfl ?_; intro r74 hr74
      have br74 := srcR_b hr74 (by first | decide | omega)
      refine doL_v (opV_eql rfl rfl) rfl rfl rfl ?_
      refine doL_nil ?_
      refine post_then ?_
      refine doC_cond rfl (fun hc75 => ?_) (fun hc75 => ?_)
      ·
        have h7 : srcR l (scQ l) 5 = 1 := by have := of_decide_eq_true hc75; unfold scQ; rw [hsh2]; rw [hr74] at this; exact this
        refine doC_srcB 9 10 [7] rfl mo (by kernel_rfl) ?_
        simp only [List.take_succ_cons, List.take_zero, List.drop_succ_cons, List.drop_zero]
        refine doM_v (fun _ => opV_fieldAddr fa78_2 rfl) rfl rfl rfl rfl ?_
        refine doM_v (fun _ => opV_load1 4 ty76 rfl rfl rfl) rfl rfl rfl rfl ?_
        refine doM_v (fun _ => opV_move rfl) rfl rfl rfl rfl ?_
        refine doM_v (fun _ => opV_fieldAddr fa78_0 rfl) rfl rfl rfl rfl ?_
        refine doM_v (fun _ => opV_fieldAddr fa74_0 rfl) rfl rfl rfl rfl ?_
        refine doM_v (fun _ => opV_load1 4 ty71 rfl rfl rfl) rfl rfl rfl rfl ?_
        refine doM_v (fun _ => opV_len_slice sl71 rfl) rfl rfl rfl rfl ?_
        refine doM_srcB (F := vI) 9 hl rfl en30 rfl (fun w' h => srcNext _ (by first | omega | assumption | (unfold In64; omega) | decide) w' h) rfl rfl rfl ?_; intro r83 hr83
        have br83 := srcR_b hr83 (by first | decide | omega)
        refine doM_v (fun _ => opV_build la118 rfl rfl) rfl rfl rfl rfl ?_
        refine doM_bslice (famB (id := 9) rfl) sl76 ze118 rfl rfl rfl rfl rfl rfl rfl rfl rfl rfl ?_
        refine doM_nil ?_
        refine tail_heap rfl ?_
        refine tail_row ?_; intro bb85
        refine tail_append 301 app76 rfl rfl rfl rfl rfl rfl (by omega) (by omega) rfl rfl ?_; intro a86 c86 R86 hR86
        obtain rfl := Option.some.inj hR86
        refine doL_v (opV_fieldAddr fa78_2 rfl) rfl rfl rfl ?_
        refine doL_store 4 ty76 rfl rfl rfl rfl rfl rfl rfl rfl ?_
        refine doL_nil ?_
        refine post_then ?_
        refine doC_seq ?_
        refine doC_region ?_
        refine doL_v (opV_loadA 4 ty78 rfl rfl rfl) rfl rfl rfl ?_
        refine doL_store 2 ty78 rfl rfl rfl rfl rfl rfl rfl rfl ?_
        refine doL_nil ?_
        refine post_then ?_
        refine doC_ret ?_
        refine post_ret (rs := [.cell 2 78]) rfl (resC (resIs_cell 2 rfl rfl ty78 rfl) (resN)) rfl ?_
        intro w2 kn
        obtain ⟨p1, p2, p3⟩ := kn.facts _ List.mem_cons_self
        obtain ⟨_, q2', q3'⟩ := kn.facts _ (List.mem_cons_of_mem _ List.mem_cons_self)
        obtain ⟨_, r2, r3⟩ := kn.facts _ (List.mem_cons_of_mem _ (List.mem_cons_of_mem _ List.mem_cons_self))
        obtain ⟨u1, u2, u3⟩ := kn.facts _ (List.mem_cons_of_mem _ (List.mem_cons_of_mem _ (List.mem_cons_of_mem _ List.mem_cons_self)))
        exact scene_end hsh2 hm2 hlen2 (by obtain ⟨s1, s2⟩ := sk_t h7; refine ⟨s1, s2.trans ?_⟩; unfold scQ; rw [hsh2, hr83]; rfl) kn.grow ⟨_, u1, fun z hz => ⟨(u2 z hz).1, (u2 z hz).2.1⟩, u3⟩ ⟨_, slc_dep _ _ _, fun z hz => ⟨(q2' z hz).1, (q2' z hz).2.1⟩, sp_slc hm2 hlen2 q3'⟩ ⟨_, p1, fun z hz => ⟨(p2 z hz).1, (p2 z hz).2.1⟩, p3⟩ ⟨_, slc_dep _ _ _, fun z hz => ⟨(r2 z hz).1, (r2 z hz).2.1⟩, own2_slc r3⟩
      ·
        have h7 : ¬ srcR l (scQ l) 5 = 1 := by have := of_decide_eq_false hc75; unfold scQ; rw [hsh2]; rw [hr74] at this; exact this
        refine doC_skip ?_
        refine post_then ?_
        refine doC_seq ?_
        refine doC_region ?_
        refine doL_v (opV_loadA 4 ty78 rfl rfl rfl) rfl rfl rfl ?_
        refine doL_store 2 ty78 rfl rfl rfl rfl rfl rfl rfl rfl ?_
        refine doL_nil ?_
        refine post_then ?_
        refine doC_ret ?_
        refine post_ret (rs := [.cell 2 78]) rfl (resC (resIs_cell 2 rfl rfl ty78 rfl) (resN)) rfl ?_
        intro w2 kn
        obtain ⟨p1, p2, p3⟩ := kn.facts _ List.mem_cons_self
        obtain ⟨_, q2', q3'⟩ := kn.facts _ (List.mem_cons_of_mem _ List.mem_cons_self)
        obtain ⟨_, r2, r3⟩ := kn.facts _ (List.mem_cons_of_mem _ (List.mem_cons_of_mem _ List.mem_cons_self))
        obtain ⟨u1, u2, u3⟩ := kn.facts _ (List.mem_cons_of_mem _ (List.mem_cons_of_mem _ (List.mem_cons_of_mem _ List.mem_cons_self)))
        exact scene_end hsh2 hm2 hlen2 (sk_f h7) kn.grow ⟨_, u1, fun z hz => ⟨(u2 z hz).1, (u2 z hz).2.1⟩, u3⟩ ⟨_, slc_dep _ _ _, fun z hz => ⟨(q2' z hz).1, (q2' z hz).2.1⟩, sp_slc hm2 hlen2 q3'⟩ ⟨_, p1, fun z hz => ⟨(p2 z hz).1, (p2 z hz).2.1⟩, p3⟩ ⟨_, slc_dep _ _ _, fun z hz => ⟨(r2 z hz).1, (r2 z hz).2.1⟩, slc_nil _⟩

end Go.Proofs.Ytonampcmhhhffaa

/- Part 11 of the texts behind the last one: rules and contracts. No condition. -/
import Derived.Test.YtonampcmhhhffaaGreatKR10
namespace Go.Proofs.YtonampcmhhhffaaGreat
open Go.Sx
theorem en28 : Enters Tryz.prog 28 := enters_of Tryz.func28 (by kernel_rfl) (by kernel_rfl)
theorem app32 : appB Tryz.prog 32 42 1 24 = true := by kernel_rfl
theorem ze42 : zeroIs Tryz.prog 42 (.slice none 0 0) := by unfold zeroIs; kernel_rfl
theorem en31 : Enters Tryz.prog 31 := enters_of Tryz.func31 (by kernel_rfl) (by kernel_rfl)
theorem ty42 : tyB Tryz.prog 42 false 1 = true := by kernel_rfl
theorem kPoints  (aj am asp ak : Option Addr) (cj nm cm csp ck n ns nk : Nat) (js : List J) (l : List Ms) (ss : List Sp) (ds : List Ad) (rk : List (List Value)) (ab : Option Addr) (cb : Nat) (bx : List Iv) (hn : 1 ≤ n ∧ n ≤ 10) (hm : nm ≤ 32) (hjn : js.length = n) (hln : l.length = nm) (hsn : ss.length = ns) (hdn : ds.length = ns) (hns : ns ≤ 24) (hnk : nk ≤ 64) (hrk : rk.length = nk) (hJ : ∀ (i : Nat) (j : J), js[i]? = some j → JOK js i j) (hv : ∀ m ∈ l, MB n m) (hsp : ∀ s ∈ ss, SpOK n s) (hk2 : ∀ r ∈ rk, ∃ a b : Int, r = [.int .i64 a, .int .i64 b] ∧ (-1 ≤ a ∧ a < n) ∧ (-1 ≤ b ∧ b < n)) (hbn : bx.length = n) (hvb : ∀ a ∈ bx, Iv.valid a = true) (w : World) (hS : SlcIs 12 aj (js.map jc) w) (hM : SlcIs 5 am (l.map mc) w) (hSp : SlcIs 3 asp (spRows ss ds) w) (hPt : PtsF ss ds w) (hK : SlcIs 2 ak rk w) (hT : SlcIs 2 ab (bx.map ivc) w) : Calls Tryz.prog 7 [.agg #[.slice aj n cj, .slice am nm cm, .slice asp ns csp, .slice ak nk ck], .slice ab n cb].toArray w (RetsF (X := Nat × List Nat) (fun x => x.2.length = ns) (fun x => .slice (some ⟨x.1, 0, none⟩) ns ns) (fun x w => SlcIs 1 (some ⟨x.1, 0, none⟩) (plRows (ptsP (lks js bx n) ss) x.2) w ∧ PlF (ptsP (lks js bx n) ss) x.2 w) w) := by
  refine calls_of_doC (n := 53) Tryz.func7 rfl rfl rfl ?_
  refine doC_seq ?_
  refine doC_region ?_
  refine doL_box 2 rfl rfl rfl rfl ?_; intro b2
  refine doL_v (opV_assign rfl) rfl rfl rfl ?_
  refine doL_nil ?_
  refine post_then ?_
  refine doC_seq ?_
  refine doC_seq ?_
  refine doC_region ?_
  refine doL_v (opV_fieldAddr fa30_0 rfl) rfl rfl rfl ?_
  refine doL_v (opV_loadA 2 ty26 rfl rfl rfl) rfl rfl rfl ?_
  refine doL_v (opV_move rfl) rfl rfl rfl ?_
  refine doL_vg (F := vB) (opV_call en27 rfl (fun w' k => kIsBox aj am ab cj nm cm cb n bx (by omega) hbn hvb w' (slc_grow hT k.grow))) rfl rfl rfl ?_; intro r13 hr13
  refine doL_v (opV_not rfl) rfl rfl rfl ?_
  refine doL_v (opV_move rfl) rfl rfl rfl ?_
  refine doL_false 15 rfl (by rw [hr13]; rfl) ?_
  refine doL_v (opV_loadA 2 ty30 rfl rfl rfl) rfl rfl rfl ?_
  refine doL_vg (F := vI) (opV_call en28 rfl (fun w' k => sCheck aj am asp ak cj nm cm csp ck n ns nk js l ss ds rk hn hm hjn hln hsn hdn hns hnk hrk hJ hv hsp hk2 w' (slc_grow hS k.grow) (slc_grow hM k.grow) (slc_grow hSp k.grow) (PtsF_grow _ _ hPt k.grow) (slc_grow hK k.grow))) rfl rfl rfl ?_; intro r17 hr17
  refine doL_v (opV_neq rfl rfl) rfl rfl rfl ?_
  refine doL_v (opV_pick_f rfl rfl rfl rfl) rfl rfl rfl ?_
  refine doL_nil ?_
  refine post_then ?_
  refine doC_cond_f rfl (by rw [hr17]; rfl) ?_
  refine doC_skip ?_
  refine post_then ?_
  refine doC_seq ?_
  refine doC_region ?_
  refine doL_v (opV_fieldAddr fa30_0 rfl) rfl rfl rfl ?_
  refine doL_v (opV_loadA 2 ty26 rfl rfl rfl) rfl rfl rfl ?_
  refine doL_v (opV_move rfl) rfl rfl rfl ?_
  refine doL_told 23 en29 rfl (fun w' k => kLinks aj am ab cj nm cm cb n js bx (by omega) hjn hbn (fun i j hj => by obtain ⟨_, _, _, _, _, _, _, h, _⟩ := hJ i j hj; exact h) w' (slc_grow hS k.grow) (slc_grow hT k.grow)) rfl rfl ?_; intro x23 Dx23 _
  refine doL_v (opV_assign rfl) rfl rfl rfl ?_
  refine doL_nil ?_
  refine post_then ?_
  refine doC_seq ?_
  refine doC_region ?_
  refine doL_v (opV_fieldAddr fa30_1 rfl) rfl rfl rfl ?_
  refine doL_v (opV_load1 2 ty27 rfl rfl rfl) rfl rfl rfl ?_
  refine doL_v (opV_len_slice sl27 rfl) rfl rfl rfl ?_
  refine doL_make 27 (makeB_of app32 ze42) rfl (by omega) (by omega) rfl rfl ?_; intro b27
  refine doL_v (opV_assign rfl) rfl rfl rfl ?_
  refine doL_nil ?_
  refine post_then ?_
  refine doC_seq ?_
  refine doC_seq ?_
  refine doC_fact 200 (PlF [] []) (fun _ => trivial) ?_
  refine doC_region ?_
  refine doL_v (opV_fieldAddr fa30_1 rfl) rfl rfl rfl ?_
  refine doL_v (opV_load1 2 ty27 rfl rfl rfl) rfl rfl rfl ?_
  refine doL_v (opV_len_slice sl27 rfl) rfl rfl rfl ?_
  refine doL_v (opV_move rfl) rfl rfl rfl ?_
  refine doL_nil ?_
  refine post_then ?_
  refine doC_block ?_
  refine doC_loopK [2, 5, 6, 29, 30] [2] (α := Nat × List Nat × (Nat → Prop)) (fun x => ns - x.1) (fun x => x.1 ≤ ns ∧ x.2.1.length = x.1) (fun x => ⟨w, [(200, x.2.2, PlF (ptsP (lks js bx n) (ss.take x.1)) x.2.1), (27, (· = b27), RowsF b27 1 42 (lsR (ptsP (lks js bx n) (ss.take x.1)) x.2.1 (ns - x.1))), (23, Dx23, SlcIs 24 (some ⟨x23, 0, none⟩) ((lks js bx n).map pc))]⟩) (fun x => [(31, .int .i64 (x.1 : Int))]) (fun _ => []) (0, [], fun _ => False) rfl rfl ?_ ?_ ?_ ?_ rfl ?_
  ·
    exact ⟨Nat.zero_le _, rfl⟩
  ·
    exact rfl
  ·
    repeat' first | exact trivial | exact True.intro | refine ⟨rfl, ?_⟩
  ·
    repeat' first | exact trivial | exact True.intro | refine ⟨rfl, ?_⟩
  rintro ⟨k, bs, D⟩ ⟨hk, hlen⟩
  dsimp only at hk hlen ⊢
  have hbs : bs.length = (ptsP (lks js bx n) (ss.take k)).length := by simp [ptsP, hlen]; omega
  have hpk : (ptsP (lks js bx n) (ss.take k)).length = k := by rw [← hbs, hlen]
  refine doC_seq ?_
  refine doC_region ?_
  refine doL_v (opV_lss rfl rfl) rfl rfl rfl ?_
  refine doL_nil ?_
  refine post_then ?_
  refine doC_seq ?_
  refine doC_cond rfl (fun hc32 => ?_) (fun hc32 => ?_)
  ·
    have h2 : k < ns := by have := of_decide_eq_true hc32; omega
    obtain ⟨s, hsk⟩ : ∃ s, ss[k]? = some s := ⟨_, List.getElem?_eq_getElem (by omega)⟩
    obtain ⟨d, hdk⟩ : ∃ d, ds[k]? = some d := ⟨_, List.getElem?_eq_getElem (by omega)⟩
    have hs := spRows_get ss ds k s d hsk hdk
    have hpt := PtsF_get ss ds k s d w hsk hdk hPt
    obtain ⟨o1, o2, o3, o4⟩ := hsp s (List.mem_of_getElem? hsk)
    obtain ⟨m, hm2⟩ : ∃ m, ns - k = m + 1 := ⟨ns - k - 1, by omega⟩
    rw [hm2]
    have hme := lsR_me (m := m) hbs
    rw [hpk] at hme
    refine doC_skip ?_
    refine post_then ?_
    refine doC_seq ?_
    refine doC_block ?_
    refine doC_seq ?_
    refine doC_region ?_
    refine doL_v (opV_move rfl) rfl rfl rfl ?_
    refine doL_v (opV_indexS (e := 41) (holds_base hSp) (by kernel_rfl) rfl rfl rfl hs h2) rfl rfl rfl ?_
    refine doL_v (opV_loadSA (vs := spc s d) k 0 (holds_base hSp) hs ty41 rfl rfl) rfl rfl rfl ?_
    refine doL_alloc 8 ze41 rfl rfl rfl ?_; intro b8
    refine doL_v (opV_assign rfl) rfl rfl rfl ?_
    refine doL_store 8 ty41 rfl rfl rfl rfl rfl rfl rfl rfl ?_
    refine doL_nil ?_
    refine post_then ?_
    refine doC_seq ?_
    refine doC_region ?_
    refine doL_vg (F := po) (opV_call en30 rfl (fun w _ => pIdentity   w)) rfl rfl rfl ?_; intro r36 hr36
    refine doL_alloc 9 ze66 rfl rfl rfl ?_; intro b9
    refine doL_store 9 ty66 rfl rfl rfl rfl rfl rfl rfl rfl ?_
    refine doL_nil ?_
    refine post_then ?_
    refine doC_seq ?_
    refine doC_seq ?_
    refine doC_region ?_
    refine doL_v (opV_fieldAddr fa41_0 rfl) rfl rfl rfl ?_
    refine doL_v (opV_load1 8 ty3 rfl rfl rfl) rfl rfl rfl ?_
    refine doL_v (opV_neq rfl rfl) rfl rfl rfl ?_
    refine doL_nil ?_
    refine post_then ?_
    refine doC_cond rfl (fun hc39 => ?_) (fun hc39 => ?_)
    ·
      have hp : ¬ s.link = -1 := by simpa using hc39
      obtain ⟨pp, hpp⟩ : ∃ pp, (lks js bx n)[s.link.toNat]? = some pp := ⟨_, List.getElem?_eq_getElem (by rw [lks_len _ (by omega) (by omega)]; omega)⟩
      have hpp2 : ((lks js bx n).map pc)[s.link.toNat]? = some (pc pp) := by rw [List.getElem?_map, hpp]; rfl
      have hpd : (lks js bx n).getD s.link.toNat Po.rest = pp := by rw [List.getD_eq_getElem?_getD, hpp]; rfl
      refine doC_region ?_
      refine doL_v (opV_move rfl) rfl rfl rfl ?_
      refine doL_v (opV_fieldAddr fa41_0 rfl) rfl rfl rfl ?_
      refine doL_v (opV_load1 8 ty3 rfl rfl rfl) rfl rfl rfl ?_
      refine doL_v (opV_indexS (e := 66) (holds_r (id := 23) rfl) (by kernel_rfl) rfl rfl (show s.link = ((s.link.toNat : Nat) : Int) by omega) hpp2 (by omega)) rfl rfl rfl ?_
      refine doL_v (opV_loadSA (vs := pc pp) s.link.toNat 0 (holds_r (id := 23) rfl) hpp2 ty66 rfl rfl) rfl rfl rfl ?_
      refine doL_store 9 ty66 rfl rfl rfl rfl rfl rfl rfl rfl ?_
      refine doL_nil ?_
      refine post_then ?_
      refine doC_region ?_
      refine doL_v (opV_move rfl) rfl rfl rfl ?_
      refine doL_v (opV_move rfl) rfl rfl rfl ?_
      refine doL_v (opV_loadA 8 ty41 rfl rfl rfl) rfl rfl rfl ?_
      refine doL_v (opV_loadA 9 ty66 rfl rfl rfl) rfl rfl rfl ?_
      refine doL_told 49 en31 rfl (fun w' k => shPlace s.link s.radius d.1 s.pts.length d.2 s.pts pp rfl o2 o3 o4 w' (slc_grow hpt k.grow)) rfl rfl ?_; intro x49 Dx49 _
      refine doL_v (opV_indexS (e := 42) ((holds_r (id := 27) rfl).imp rowsF_slc) (by kernel_rfl) rfl rfl rfl hme h2) rfl rfl rfl ?_
      refine doL_storeRowV (vs := plc (plR pp s.pts) x49) (j := k) 27 ty42 rfl rfl rfl (by simp [lsR, plRows_len _ _ hbs]; omega) (by simp [plc, plR, Value.cells]) rfl rfl rfl rfl ?_; intro R49 hR49
      obtain rfl := Option.some.inj hR49
      have hset := lsR_set (m := m) (plR pp s.pts) x49 hbs
      rw [hpk] at hset
      rw [hset]
      refine doL_nil ?_
      refine post_block_normal ?_
      refine post_then ?_
      refine doC_merge 200 (PlF ((ptsP (lks js bx n) (ss.take k)) ++ [plR pp s.pts]) (bs ++ [x49])) rfl rfl (fun h1 h2 => PlF_dep hbs h1 h2) (fun w h1 h2 => PlF_snoc _ bs _ x49 w hbs h2 h1) ?_
      refine doC_region ?_
      refine doL_v (opV_add rfl rfl (inc_nat (by omega))) rfl rfl rfl ?_
      refine doL_v (opV_move rfl) rfl rfl rfl ?_
      refine doL_nil ?_
      refine post_again (k + 1, bs ++ [x49], fun z => Dx49 z ∨ D z) (by refine ⟨?_, ?_⟩ <;> dsimp only; omega; simp [hlen]) (by show ns - (k + 1) < ns - k; omega) (by dsimp only; rw [show ns - (k + 1) = m by omega, ptsP_take hsk, show spP (lks js bx n) s = pp from (if_neg hp).trans hpd]; try rfl) ?_ ?_ rfl
      repeat' first | exact trivial | exact True.intro | refine ⟨rfl, ?_⟩
    ·
      have hp : s.link = -1 := by simpa using hc39
      obtain ⟨pp, hpq⟩ : ∃ q, q = r36 := ⟨_, rfl⟩
      subst hpq
      refine doC_skip ?_
      refine post_then ?_
      refine doC_region ?_
      refine doL_v (opV_move rfl) rfl rfl rfl ?_
      refine doL_v (opV_move rfl) rfl rfl rfl ?_
      refine doL_v (opV_loadA 8 ty41 rfl rfl rfl) rfl rfl rfl ?_
      refine doL_v (opV_loadA 9 ty66 rfl rfl rfl) rfl rfl rfl ?_
      refine doL_told 49 en31 rfl (fun w' k => shPlace s.link s.radius d.1 s.pts.length d.2 s.pts pp rfl o2 o3 o4 w' (slc_grow hpt k.grow)) rfl rfl ?_; intro x49 Dx49 _
      refine doL_v (opV_indexS (e := 42) ((holds_r (id := 27) rfl).imp rowsF_slc) (by kernel_rfl) rfl rfl rfl hme h2) rfl rfl rfl ?_
      refine doL_storeRowV (vs := plc (plR pp s.pts) x49) (j := k) 27 ty42 rfl rfl rfl (by simp [lsR, plRows_len _ _ hbs]; omega) (by simp [plc, plR, Value.cells]) rfl rfl rfl rfl ?_; intro R49 hR49
      obtain rfl := Option.some.inj hR49
      have hset := lsR_set (m := m) (plR pp s.pts) x49 hbs
      rw [hpk] at hset
      rw [hset]
      refine doL_nil ?_
      refine post_block_normal ?_
      refine post_then ?_
      refine doC_merge 200 (PlF ((ptsP (lks js bx n) (ss.take k)) ++ [plR pp s.pts]) (bs ++ [x49])) rfl rfl (fun h1 h2 => PlF_dep hbs h1 h2) (fun w h1 h2 => PlF_snoc _ bs _ x49 w hbs h2 h1) ?_
      refine doC_region ?_
      refine doL_v (opV_add rfl rfl (inc_nat (by omega))) rfl rfl rfl ?_
      refine doL_v (opV_move rfl) rfl rfl rfl ?_
      refine doL_nil ?_
      refine post_again (k + 1, bs ++ [x49], fun z => Dx49 z ∨ D z) (by refine ⟨?_, ?_⟩ <;> dsimp only; omega; simp [hlen]) (by show ns - (k + 1) < ns - k; omega) (by dsimp only; rw [show ns - (k + 1) = m by omega, ptsP_take hsk, show spP (lks js bx n) s = pp from (if_pos hp).trans hr36.symm]; try rfl) ?_ ?_ rfl
      repeat' first | exact trivial | exact True.intro | refine ⟨rfl, ?_⟩
  ·
    obtain rfl : k = ns := by have := of_decide_eq_false hc32; omega
    refine doC_exit ?_
    refine post_then_exit ?_
    refine post_then_exit ?_
    refine post_block_exit ?_
    refine post_then ?_
    refine doC_seq ?_
    refine doC_region ?_
    refine doL_v (opV_move rfl) rfl rfl rfl ?_
    refine doL_v (opV_assign rfl) rfl rfl rfl ?_
    refine doL_nil ?_
    refine post_then ?_
    refine doC_ret ?_
    refine post_ret (rs := [.tmp 4]) rfl (resC (resIs_tmp rfl) (resN)) rfl ?_
    intro w2 k2
    obtain ⟨p1, p2, p3⟩ := k2.facts _ List.mem_cons_self
    obtain ⟨_, q2, q3⟩ := k2.facts _ (List.mem_cons_of_mem _ List.mem_cons_self)
    have hts : ss.take k = ss := List.take_of_length_le (by omega)
    rw [hts] at p1 p3 q3
    refine ⟨(b27, bs), hlen, rfl, k2.grow, told_and ⟨ownD _, slc_dep _ _ _, fun z hz => ?_, ?_⟩ ⟨_, p1, fun z hz => ⟨(p2 z hz).1, (p2 z hz).2.1⟩, p3⟩⟩
    · obtain ⟨ad, h1, h2⟩ := hz
      cases h1
      subst h2
      exact ⟨(q2 _ rfl).1, (q2 _ rfl).2.1⟩
    · have q4 := rowsF_slc _ q3
      simpa [lsR] using q4
end Go.Proofs.YtonampcmhhhffaaGreat
namespace Go.Proofs.YtonampcmhhhffaaGreat
open Go.Sx Go.RowKit
theorem made_off (l : List Int) : ∀ j ∈ (jsOf l 0 (nJ l 0)).1, ZB j.off := fun j hj => by
  obtain ⟨k, hk⟩ := List.mem_iff_getElem?.1 hj
  obtain ⟨_, _, _, _, _, _, _, _, h1, h2, h3, _⟩ := made_JOK l 0 (nJ l 0) (nJ_b l 0).2.1 k j hk
  exact ⟨h1, h2, h3⟩
theorem made_ns (l : List Int) : (shB l (obN l)).1.length ≤ 6 := by
  have h1 := shB_len l (obN l)
  have h2 := nJ_b l 0
  have h3 := obN_b l
  omega
theorem madePoints {l : List Int} {x : ScX} {ab : Option Addr} {cb : Nat} {bx : List Iv} (w : World) (hx : scP l x) (hb : bx.length = nJ l 0) (hv : ∀ a ∈ bx, Iv.valid a = true) (hF : scF l x w) (hT : SlcIs 2 ab (bx.map ivc) w) :
    Calls Tryz.prog 7 [scV l x, .slice ab (nJ l 0) cb].toArray w (RetsF (X := Nat × List Nat) (fun y => y.2.length = (shB l (obN l)).1.length) (fun y => .slice (some ⟨y.1, 0, none⟩) (shB l (obN l)).1.length (shB l (obN l)).1.length)
      (fun y w => SlcIs 1 (some ⟨y.1, 0, none⟩) (plRows (ptsP (lks (jsOf l 0 (nJ l 0)).1 bx (nJ l 0)) (shB l (obN l)).1) y.2) w ∧ PlF (ptsP (lks (jsOf l 0 (nJ l 0)).1 bx (nJ l 0)) (shB l (obN l)).1) y.2 w) w) := by
  have hn := nJ_b l 0
  have hm := nM_b l 0
  have hs := made_ns l
  obtain ⟨k1, k2, k3⟩ := skR_ok l
  obtain ⟨⟨f1, f2⟩, ⟨f3, f4⟩, f5⟩ := hF
  exact kPoints x.1.1 x.2.1.1 x.2.2.1.1 x.2.2.2.1.1 x.1.2 (nM l 0) x.2.1.2 x.2.2.1.2 x.2.2.2.1.2 (nJ l 0) (shB l (obN l)).1.length (skN l) (jsOf l 0 (nJ l 0)).1 (msOf l 0 (nM l 0)) (shB l (obN l)).1 x.2.2.2.2 (skR l) ab cb bx
    (by omega) (by omega) (jsOf_len _ _ _) (msOf_len _ _ _) rfl hx (by omega) k2 k1 (fun i j h => made_JOK l 0 (nJ l 0) hn.2.1 i j h) (fun m h => msOf_get l 0 _ m h) (shB_ok l _) k3 hb hv w f1 f2 f3 f4 f5 hT
end Go.Proofs.YtonampcmhhhffaaGreat
namespace Go.Proofs.YtonampcmhhhffaaGreat
open Go.Sx
theorem app36 : appB Tryz.prog 36 2 1 8 = true := by kernel_rfl
theorem en32 : Enters Tryz.prog 32 := enters_of Tryz.func32 (by kernel_rfl) (by kernel_rfl)
theorem pts1_take {cs : List Int} {k : Nat} {x : Int} (h : cs[k]? = some x) : pts1 (cs.take (k + 1)) = pts1 (cs.take k) ++ [⟨x, x⟩] := by
  unfold pts1
  rw [List.take_add_one, h]
  simp
theorem mkCfg (lv : Value) (l : List Int) (aj am : Option Addr) (cj nm cm : Nat) (js : List J) (hn : js.length ≤ 1000) (hjs : ∀ j ∈ js, JB j) (w : World) (hl : IntsAt w w.heap.size lv l) (hS : SlcIs 12 aj (js.map jc) w) : Calls Tryz.prog 9 [.agg #[.slice aj js.length cj, .slice am nm cm], lv].toArray w (RetsF (X := Option Addr × Nat) (fun _ => True) (fun x => .slice x.1 js.length x.2) (fun x => OwnF 0 2 1 x.1 x.2 js.length (icC (cfgs l js js.length).1)) w) := by
  refine calls_of_doC (n := 57) Tryz.func9 rfl rfl rfl ?_
  refine doC_seq ?_
  refine doC_region ?_
  refine doL_box 2 rfl rfl rfl rfl ?_; intro b2
  refine doL_v (opV_assign rfl) rfl rfl rfl ?_
  refine doL_nil ?_
  refine post_then ?_
  refine doC_seq ?_
  refine doC_region ?_
  refine doL_v (opV_move rfl) rfl rfl rfl ?_
  refine doL_callNew 11 en22 rfl (fun w' k => mFrom w' (intsAt_grow hl k.grow (Nat.le_refl _))) rfl rfl ?_; intro b11
  refine doL_v (opV_assign rfl) rfl rfl rfl ?_
  refine doL_nil ?_
  refine post_then ?_
  refine doC_seq ?_
  refine doC_region ?_
  refine doL_v (opV_assign rfl) rfl rfl rfl ?_
  refine doL_nil ?_
  refine post_then ?_
  refine doC_seq ?_
  refine doC_seq ?_
  refine doC_own 100 2 1 ?_
  refine doC_region ?_
  refine doL_v (opV_assign rfl) rfl rfl rfl ?_
  refine doL_nil ?_
  refine post_then ?_
  refine doC_block ?_
  refine doC_loopK [2, 5] [2] (α := Nat × Nat × Option Addr × Nat × List Int) (fun x => js.length - x.1) (fun x => x.1 ≤ js.length ∧ cfgs l js x.1 = (x.2.2.2.2, x.2.1) ∧ x.2.2.2.2.length = x.1) (fun x => ⟨w, [(100, ownD x.2.2.1, OwnF 0 2 1 x.2.2.1 x.2.2.2.1 x.1 (icC x.2.2.2.2))]⟩) (fun x => [(6, .slice x.2.2.1 x.1 x.2.2.2.1), (7, .int .i64 (x.1 : Int))]) (fun x => [(11, b11, srcC lv l x.2.1, 98)]) (0, 0, none, 0, []) rfl rfl ?_ ?_ ?_ ?_ rfl ?_
  ·
    exact ⟨Nat.zero_le _, rfl, rfl⟩
  ·
    exact rfl
  ·
    repeat' first | exact trivial | exact True.intro | refine ⟨rfl, ?_⟩
  ·
    repeat' first | exact trivial | exact True.intro | refine ⟨rfl, ?_⟩
  rintro ⟨k, q, a, cap, cs⟩ ⟨hk, hsh, hlen⟩
  dsimp only at hk hsh hlen ⊢
  refine doC_seq ?_
  refine doC_seq ?_
  refine doC_region ?_
  refine doL_v (opV_move rfl) rfl rfl rfl ?_
  refine doL_v (opV_fieldAddr fa26_0 rfl) rfl rfl rfl ?_
  refine doL_v (opV_load1 2 ty23 rfl rfl rfl) rfl rfl rfl ?_
  refine doL_v (opV_len_slice sl23 rfl) rfl rfl rfl ?_
  refine doL_v (opV_lss rfl rfl) rfl rfl rfl ?_
  refine doL_nil ?_
  refine post_then ?_
  refine doC_cond rfl (fun hc16 => ?_) (fun hc16 => ?_)
  ·
    have h2 : k < js.length := by have := of_decide_eq_true hc16; omega
    obtain ⟨j, hjk⟩ : ∃ j, js[k]? = some j := ⟨_, List.getElem?_eq_getElem h2⟩
    have hj : (js.map jc)[k]? = some (jc j) := by rw [List.getElem?_map, hjk]; rfl
    obtain ⟨bj1, bj2, bj3⟩ := hjs j (List.mem_of_getElem? hjk)
    refine doC_skip ?_
    refine post_then ?_
    refine doC_seq ?_
    refine doC_block ?_
    refine doC_seq ?_
    refine doC_all mo (by kernel_rfl) ?_
    refine doG_v (opV_fieldAddr fa26_0 rfl) rfl rfl rfl ?_
    refine doG_v (opV_load1 2 ty23 rfl rfl rfl) rfl rfl rfl ?_
    refine doG_v (opV_move rfl) rfl rfl rfl ?_
    refine doG_v (opV_indexS (e := 84) (holds_base hS) (by kernel_rfl) rfl rfl rfl hj h2) rfl rfl rfl ?_
    refine doG_v (opV_fieldS (holds_base hS) hj fa84_4 rfl) rfl rfl rfl ?_
    refine doG_v (opV_loadS1 k 6 (holds_base hS) hj ty2 rfl rfl) rfl rfl rfl ?_
    refine doG_v (opV_fieldAddr fa26_0 rfl) rfl rfl rfl ?_
    refine doG_v (opV_load1 2 ty23 rfl rfl rfl) rfl rfl rfl ?_
    refine doG_v (opV_move rfl) rfl rfl rfl ?_
    refine doG_v (opV_indexS (e := 84) (holds_base hS) (by kernel_rfl) rfl rfl rfl hj h2) rfl rfl rfl ?_
    refine doG_v (opV_fieldS (holds_base hS) hj fa84_5 rfl) rfl rfl rfl ?_
    refine doG_v (opV_loadS1 k 7 (holds_base hS) hj ty2 rfl rfl) rfl rfl rfl ?_
    refine doG_v (opV_assign rfl) rfl rfl rfl ?_
    refine doG_v (opV_assign rfl) rfl rfl rfl ?_
    refine doG_nil ?_
    refine post_then ?_
    refine doC_seq ?_
    refine doC_region ?_
    refine doL_v (opV_move rfl) rfl rfl rfl ?_
    refine doL_srcB (F := vI) 11 hl rfl en24 rfl (fun w' h => srcNext _ (by first | omega | assumption | (unfold In64; omega) | decide) w' h) rfl rfl rfl ?_; intro r32 hr32
    have br32 := srcR_b hr32 (by first | decide | omega)
    refine doL_nil ?_
    refine post_then ?_
    refine doC_block ?_
    refine doC_seq ?_
    refine doC_region ?_
    refine doL_v (opV_eql rfl rfl) rfl rfl rfl ?_
    refine doL_v (opV_assign rfl) rfl rfl rfl ?_
    refine doL_nil ?_
    refine post_then ?_
    refine doC_cond rfl (fun hc44 => ?_) (fun hc44 => ?_)
    ·
      refine doC_region ?_
      refine doL_v (opV_move rfl) rfl rfl rfl ?_
      refine doL_v (opV_move rfl) rfl rfl rfl ?_
      refine doL_bslice 48 sl36 ze2 rfl rfl rfl rfl rfl rfl rfl rfl ?_; intro b48
      refine doL_append (id2 := 48) 100 app36 rfl rfl rfl rfl rfl rfl rfl (by omega) (by omega) rfl rfl ?_; intro a49 c49 R49 hR49
      obtain rfl := Option.some.inj hR49
      refine doL_v (opV_assign rfl) rfl rfl rfl ?_
      refine doL_nil ?_
      refine post_block_normal ?_
      refine post_block_normal ?_
      refine post_then ?_
      refine doC_region ?_
      refine doL_v (opV_move rfl) rfl rfl rfl ?_
      refine doL_v (opV_add rfl rfl (inc_nat (by omega))) rfl rfl rfl ?_
      refine doL_v (opV_assign rfl) rfl rfl rfl ?_
      refine doL_nil ?_
      refine post_again (k + 1, q + 1, a49, c49, cs ++ [j.lo]) (by refine ⟨?_, ?_, ?_⟩ <;> dsimp only; omega; exact cfg_0 hjk hsh hr32 (of_decide_eq_true hc44); simp [hlen]) (by show js.length - (k + 1) < js.length - k; omega) (by dsimp only; rw [icC_snoc]; rfl) ?_ ?_ rfl
      repeat' first | exact trivial | exact True.intro | refine ⟨rfl, ?_⟩
    ·
      refine doC_seq ?_
      refine doC_region ?_
      refine doL_v (opV_eql rfl rfl) rfl rfl rfl ?_
      refine doL_v (opV_assign rfl) rfl rfl rfl ?_
      refine doL_nil ?_
      refine post_then ?_
      refine doC_cond rfl (fun hc50 => ?_) (fun hc50 => ?_)
      ·
        refine doC_region ?_
        refine doL_v (opV_move rfl) rfl rfl rfl ?_
        refine doL_v (opV_move rfl) rfl rfl rfl ?_
        refine doL_bslice 54 sl36 ze2 rfl rfl rfl rfl rfl rfl rfl rfl ?_; intro b54
        refine doL_append (id2 := 54) 100 app36 rfl rfl rfl rfl rfl rfl rfl (by omega) (by omega) rfl rfl ?_; intro a55 c55 R55 hR55
        obtain rfl := Option.some.inj hR55
        refine doL_v (opV_assign rfl) rfl rfl rfl ?_
        refine doL_nil ?_
        refine post_block_normal ?_
        refine post_block_normal ?_
        refine post_then ?_
        refine doC_region ?_
        refine doL_v (opV_move rfl) rfl rfl rfl ?_
        refine doL_v (opV_add rfl rfl (inc_nat (by omega))) rfl rfl rfl ?_
        refine doL_v (opV_assign rfl) rfl rfl rfl ?_
        refine doL_nil ?_
        refine post_again (k + 1, q + 1, a55, c55, cs ++ [j.hi]) (by refine ⟨?_, ?_, ?_⟩ <;> dsimp only; omega; exact cfg_1 hjk hsh hr32 (of_decide_eq_true hc50); simp [hlen]) (by show js.length - (k + 1) < js.length - k; omega) (by dsimp only; rw [icC_snoc]; rfl) ?_ ?_ rfl
        repeat' first | exact trivial | exact True.intro | refine ⟨rfl, ?_⟩
      ·
        refine doC_region ?_
        refine doL_v (opV_move rfl) rfl rfl rfl ?_
        refine doL_v (opV_move rfl) rfl rfl rfl ?_
        refine doL_v (opV_move rfl) rfl rfl rfl ?_
        refine doL_v (opV_move rfl) rfl rfl rfl ?_
        refine doL_v (opV_move rfl) rfl rfl rfl ?_
        refine doL_v (opV_sub rfl rfl (by first | exact i64_in ⟨by omega, by omega⟩ | rfl)) rfl rfl rfl ?_
        refine doL_v (opV_add rfl rfl (by first | exact i64_in ⟨by omega, by omega⟩ | rfl)) rfl rfl rfl ?_
        refine doL_srcB (F := vI) 11 hl rfl en24 rfl (fun w' h => srcNext _ (by first | omega | assumption | (unfold In64; omega) | decide) w' h) rfl rfl rfl ?_; intro r40 hr40
        have br40 := srcR_b hr40 (by first | decide | omega)
        refine doL_v (opV_add rfl rfl (by first | exact i64_in ⟨by omega, by omega⟩ | rfl)) rfl rfl rfl ?_
        refine doL_bslice 42 sl36 ze2 rfl rfl rfl rfl rfl rfl rfl rfl ?_; intro b42
        refine doL_append (id2 := 42) 100 app36 rfl rfl rfl rfl rfl rfl rfl (by omega) (by omega) rfl rfl ?_; intro a43 c43 R43 hR43
        obtain rfl := Option.some.inj hR43
        refine doL_v (opV_assign rfl) rfl rfl rfl ?_
        refine doL_nil ?_
        refine post_block_normal ?_
        refine post_block_normal ?_
        refine post_then ?_
        refine doC_region ?_
        refine doL_v (opV_move rfl) rfl rfl rfl ?_
        refine doL_v (opV_add rfl rfl (inc_nat (by omega))) rfl rfl rfl ?_
        refine doL_v (opV_assign rfl) rfl rfl rfl ?_
        refine doL_nil ?_
        refine post_again (k + 1, q + 1 + 1, a43, c43, cs ++ [j.lo + r40]) (by refine ⟨?_, ?_, ?_⟩ <;> dsimp only; omega; exact cfg_2 hjk hsh hr32 (of_decide_eq_false hc44) (of_decide_eq_false hc50) hr40; simp [hlen]) (by show js.length - (k + 1) < js.length - k; omega) (by dsimp only; rw [icC_snoc]; rfl) ?_ ?_ rfl
        repeat' first | exact trivial | exact True.intro | refine ⟨rfl, ?_⟩
  ·
    obtain rfl : k = js.length := by have := of_decide_eq_false hc16; omega
    refine doC_exit ?_
    refine post_then_exit ?_
    refine post_then_exit ?_
    refine post_block_exit ?_
    refine post_then ?_
    refine doC_seq ?_
    refine doC_region ?_
    refine doL_v (opV_move rfl) rfl rfl rfl ?_
    refine doL_v (opV_assign rfl) rfl rfl rfl ?_
    refine doL_nil ?_
    refine post_then ?_
    refine doC_ret ?_
    refine post_ret (rs := [.tmp 4]) rfl (resC (resIs_tmp rfl) (resN)) rfl ?_
    intro w2 k2
    obtain ⟨_, q2, q3⟩ := k2.facts _ List.mem_cons_self
    exact ⟨(a, cap), trivial, rfl, k2.grow, ownD a, own_dep _ _ _ _ _ _ _, fun z hz => ⟨(q2 z hz).1, (q2 z hz).2.1⟩, by dsimp only; rw [hsh]; exact q3⟩
theorem rSmall  (ac : Option Addr) (cc n : Nat) (cs : List Int) (hn : n ≤ 1000) (hcn : cs.length = n) (hv : ∀ x ∈ cs, -1000000 ≤ x ∧ x ≤ 1000000) (w : World) (hT : SlcIs 1 ac (cs.map ic) w) : Calls Tryz.prog 32 [.slice ac n cc].toArray w (Rets (vB (true)) (w)) := by
  refine calls_of_doC (n := 22) Tryz.func32 rfl rfl rfl ?_
  refine doC_seq ?_
  refine doC_region ?_
  refine doL_v (opV_assign rfl) rfl rfl rfl ?_
  refine doL_nil ?_
  refine post_then ?_
  refine doC_seq ?_
  refine doC_seq ?_
  refine doC_region ?_
  refine doL_v (opV_assign rfl) rfl rfl rfl ?_
  refine doL_nil ?_
  refine post_then ?_
  refine doC_block ?_
  refine doC_loopK [0] [] (α := Nat) (fun x => n - x) (fun x => x ≤ n) (fun _ => ⟨w, []⟩) (fun x => [(3, .int .i64 (x : Int))]) (fun _ => []) 0 rfl rfl ?_ ?_ ?_ ?_ rfl ?_
  ·
    exact Nat.zero_le _
  ·
    exact rfl
  ·
    repeat' first | exact trivial | exact True.intro | refine ⟨rfl, ?_⟩
  ·
    repeat' first | exact trivial | exact True.intro | refine ⟨rfl, ?_⟩
  rintro k hk
  try dsimp only at hk ⊢
  refine doC_seq ?_
  refine doC_seq ?_
  refine doC_region ?_
  refine doL_v (opV_move rfl) rfl rfl rfl ?_
  refine doL_v (opV_move rfl) rfl rfl rfl ?_
  refine doL_v (opV_len_slice sl36 rfl) rfl rfl rfl ?_
  refine doL_v (opV_lss rfl rfl) rfl rfl rfl ?_
  refine doL_nil ?_
  refine post_then ?_
  refine doC_cond rfl (fun hc7 => ?_) (fun hc7 => ?_)
  ·
    have h2 : k < n := by have := of_decide_eq_true hc7; omega
    obtain ⟨x, hxk⟩ : ∃ x, cs[k]? = some x := ⟨_, List.getElem?_eq_getElem (by omega)⟩
    have hx : (cs.map ic)[k]? = some (ic x) := by rw [List.getElem?_map, hxk]; rfl
    have hvx := hv x (List.mem_of_getElem? hxk)
    refine doC_skip ?_
    refine post_then ?_
    refine doC_seq ?_
    refine doC_block ?_
    refine doC_seq ?_
    refine doC_region ?_
    refine doL_v (opV_move rfl) rfl rfl rfl ?_
    refine doL_v (opV_move rfl) rfl rfl rfl ?_
    refine doL_v (opV_indexS (e := 2) (holds_base hT) (by kernel_rfl) rfl rfl rfl hx h2) rfl rfl rfl ?_
    refine doL_v (opV_loadS1 k 0 (holds_base hT) hx ty2 rfl rfl) rfl rfl rfl ?_
    refine doL_v (opV_lss rfl rfl) rfl rfl rfl ?_
    refine doL_v (opV_move rfl) rfl rfl rfl ?_
    refine doL_false 15 rfl (decide_eq_false (by omega)) ?_
    refine doL_v (opV_move rfl) rfl rfl rfl ?_
    refine doL_v (opV_move rfl) rfl rfl rfl ?_
    refine doL_v (opV_indexS (e := 2) (holds_base hT) (by kernel_rfl) rfl rfl rfl hx h2) rfl rfl rfl ?_
    refine doL_v (opV_loadS1 k 0 (holds_base hT) hx ty2 rfl rfl) rfl rfl rfl ?_
    refine doL_v (opV_gtr rfl rfl) rfl rfl rfl ?_
    refine doL_v (opV_pick_f rfl rfl rfl rfl) rfl rfl rfl ?_
    refine doL_nil ?_
    refine post_then ?_
    refine doC_cond_f rfl (decide_eq_false (by omega)) ?_
    refine doC_skip ?_
    refine post_block_normal ?_
    refine post_then ?_
    refine doC_region ?_
    refine doL_v (opV_move rfl) rfl rfl rfl ?_
    refine doL_v (opV_add rfl rfl (inc_nat (by omega))) rfl rfl rfl ?_
    refine doL_v (opV_assign rfl) rfl rfl rfl ?_
    refine doL_nil ?_
    refine post_again (k + 1) (by show k + 1 ≤ n; omega) (by show n - (k + 1) < n - k; omega) rfl ?_ ?_ rfl
    repeat' first | exact trivial | exact True.intro | refine ⟨rfl, ?_⟩
  ·
    refine doC_exit ?_
    refine post_then_exit ?_
    refine post_then_exit ?_
    refine post_block_exit ?_
    refine post_then ?_
    refine doC_seq ?_
    refine doC_region ?_
    refine doL_v (opV_assign rfl) rfl rfl rfl ?_
    refine doL_nil ?_
    refine post_then ?_
    refine doC_ret ?_
    refine post_rets (rs := [.tmp 2]) rfl (resC (resIs_tmp rfl) (resN)) (congrArg (vB) (?_ : _ = true))
    rfl
theorem rBox  (ac : Option Addr) (cc n : Nat) (cs : List Int) (hn : n ≤ 1000) (hcn : cs.length = n) (hv : ∀ x ∈ cs, -1000000 ≤ x ∧ x ≤ 1000000) (w : World) (hT : SlcIs 1 ac (cs.map ic) w) : Calls Tryz.prog 8 [.slice ac n cc].toArray w (RetsF (X := Option Addr × Nat) (fun _ => True) (fun x => .slice x.1 n x.2) (fun x => SlcIs 2 x.1 ((pts1 cs).map ivc)) w) := by
  refine calls_of_doC (n := 27) Tryz.func8 rfl rfl rfl ?_
  refine doC_seq ?_
  refine doC_region ?_
  refine doL_v (opV_assign rfl) rfl rfl rfl ?_
  refine doL_nil ?_
  refine post_then ?_
  refine doC_seq ?_
  refine doC_seq ?_
  refine doC_region ?_
  refine doL_v (opV_move rfl) rfl rfl rfl ?_
  refine doL_vg (F := vB) (opV_call en32 rfl (fun w' k => rSmall ac cc n cs hn hcn hv w' (slc_grow hT k.grow))) rfl rfl rfl ?_; intro r6 hr6
  refine doL_v (opV_not rfl) rfl rfl rfl ?_
  refine doL_nil ?_
  refine post_then ?_
  refine doC_cond_f rfl (by rw [hr6]; rfl) ?_
  refine doC_skip ?_
  refine post_then ?_
  refine doC_seq ?_
  refine doC_region ?_
  refine doL_v (opV_assign rfl) rfl rfl rfl ?_
  refine doL_nil ?_
  refine post_then ?_
  refine doC_seq ?_
  refine doC_seq ?_
  refine doC_own 100 44 2 ?_
  refine doC_region ?_
  refine doL_v (opV_assign rfl) rfl rfl rfl ?_
  refine doL_nil ?_
  refine post_then ?_
  refine doC_block ?_
  refine doC_loopK [0] [] (α := Nat × Option Addr × Nat) (fun x => n - x.1) (fun x => x.1 ≤ n) (fun x => ⟨w, [(100, ownD x.2.1, OwnF 0 44 2 x.2.1 x.2.2 x.1 (ivC (pts1 (cs.take x.1))))]⟩) (fun x => [(3, .slice x.2.1 x.1 x.2.2), (4, .int .i64 (x.1 : Int))]) (fun _ => []) (0, none, 0) rfl rfl ?_ ?_ ?_ ?_ rfl ?_
  ·
    exact Nat.zero_le _
  ·
    exact rfl
  ·
    repeat' first | exact trivial | exact True.intro | refine ⟨rfl, ?_⟩
  ·
    repeat' first | exact trivial | exact True.intro | refine ⟨rfl, ?_⟩
  rintro ⟨k, a, cap⟩ hk
  dsimp only at hk ⊢
  refine doC_seq ?_
  refine doC_seq ?_
  refine doC_region ?_
  refine doL_v (opV_move rfl) rfl rfl rfl ?_
  refine doL_v (opV_move rfl) rfl rfl rfl ?_
  refine doL_v (opV_len_slice sl36 rfl) rfl rfl rfl ?_
  refine doL_v (opV_lss rfl rfl) rfl rfl rfl ?_
  refine doL_nil ?_
  refine post_then ?_
  refine doC_cond rfl (fun hc11 => ?_) (fun hc11 => ?_)
  ·
    have h2 : k < n := by have := of_decide_eq_true hc11; omega
    obtain ⟨x, hxk⟩ : ∃ x, cs[k]? = some x := ⟨_, List.getElem?_eq_getElem (by omega)⟩
    have hx : (cs.map ic)[k]? = some (ic x) := by rw [List.getElem?_map, hxk]; rfl
    have hvx := hv x (List.mem_of_getElem? hxk)
    refine doC_skip ?_
    refine post_then ?_
    refine doC_seq ?_
    refine doC_block ?_
    refine doC_drawn 11 mo (by kernel_rfl) ?_
    simp only [List.take_succ_cons, List.take_zero, List.drop_succ_cons, List.drop_zero]
    refine doG_v (opV_move rfl) rfl rfl rfl ?_
    refine doG_v (opV_move rfl) rfl rfl rfl ?_
    refine doG_v (opV_move rfl) rfl rfl rfl ?_
    refine doG_v (opV_indexS (e := 2) (holds_base hT) (by kernel_rfl) rfl rfl rfl hx h2) rfl rfl rfl ?_
    refine doG_v (opV_loadS1 k 0 (holds_base hT) hx ty2 rfl rfl) rfl rfl rfl ?_
    refine doG_v (opV_move rfl) rfl rfl rfl ?_
    refine doG_v (opV_move rfl) rfl rfl rfl ?_
    refine doG_v (opV_indexS (e := 2) (holds_base hT) (by kernel_rfl) rfl rfl rfl hx h2) rfl rfl rfl ?_
    refine doG_v (opV_loadS1 k 0 (holds_base hT) hx ty2 rfl rfl) rfl rfl rfl ?_
    refine doG_v (opV_build la44 rfl rfl) rfl rfl rfl ?_
    refine doG_bslice sl34 ze44 rfl rfl rfl rfl rfl rfl rfl rfl rfl ?_
    refine doG_nil ?_
    refine tail_row ?_; intro bb24
    refine tail_append 100 app34 rfl rfl rfl rfl rfl rfl (by omega) (by omega) rfl rfl ?_; intro a25 c25 R25 hR25
    obtain rfl := Option.some.inj hR25
    refine doL_v (opV_assign rfl) rfl rfl rfl ?_
    refine doL_nil ?_
    refine post_block_normal ?_
    refine post_then ?_
    refine doC_region ?_
    refine doL_v (opV_move rfl) rfl rfl rfl ?_
    refine doL_v (opV_add rfl rfl (inc_nat (by omega))) rfl rfl rfl ?_
    refine doL_v (opV_assign rfl) rfl rfl rfl ?_
    refine doL_nil ?_
    refine post_again (k + 1, a25, c25) (by show k + 1 ≤ n; omega) (by show n - (k + 1) < n - k; omega) (by dsimp only; rw [pts1_take hxk, ivC_snoc]; rfl) ?_ ?_ rfl
    repeat' first | exact trivial | exact True.intro | refine ⟨rfl, ?_⟩
  ·
    obtain rfl : k = n := by have := of_decide_eq_false hc11; omega
    refine doC_exit ?_
    refine post_then_exit ?_
    refine post_then_exit ?_
    refine post_block_exit ?_
    refine post_then ?_
    refine doC_seq ?_
    refine doC_region ?_
    refine doL_v (opV_move rfl) rfl rfl rfl ?_
    refine doL_v (opV_assign rfl) rfl rfl rfl ?_
    refine doL_nil ?_
    refine post_then ?_
    refine doC_ret ?_
    refine post_ret (rs := [.tmp 2]) rfl (resC (resIs_tmp rfl) (resN)) rfl ?_
    intro w2 k2
    obtain ⟨_, q2, q3⟩ := k2.facts _ List.mem_cons_self
    rw [List.take_of_length_le (by omega)] at q3
    exact ⟨(a, cap), trivial, rfl, k2.grow, ownD a, slc_dep _ _ _, fun z hz => ⟨(q2 z hz).1, (q2 z hz).2.1⟩, iv_slc (by simp [pts1, hcn]) q3⟩
end Go.Proofs.YtonampcmhhhffaaGreat
namespace Go.Proofs.YtonampcmhhhffaaGreat
open Go.Sx
theorem en37 : Enters Tryz.prog 37 := enters_of Tryz.func37 (by kernel_rfl) (by kernel_rfl)
theorem en6 : Enters Tryz.prog 6 := enters_of Tryz.func6 (by kernel_rfl) (by kernel_rfl)
theorem en9 : Enters Tryz.prog 9 := enters_of Tryz.func9 (by kernel_rfl) (by kernel_rfl)
theorem en8 : Enters Tryz.prog 8 := enters_of Tryz.func8 (by kernel_rfl) (by kernel_rfl)
theorem en7 : Enters Tryz.prog 7 := enters_of Tryz.func7 (by kernel_rfl) (by kernel_rfl)
theorem sl32 : slcB Tryz.prog 32 42 1 = true := by kernel_rfl
theorem sl42 : slcB Tryz.prog 42 46 6 = true := by kernel_rfl
theorem en11 : Enters Tryz.prog 11 := enters_of Tryz.func11 (by kernel_rfl) (by kernel_rfl)
theorem en14 : Enters Tryz.prog 14 := enters_of Tryz.func14 (by kernel_rfl) (by kernel_rfl)
theorem en13 : Enters Tryz.prog 13 := enters_of Tryz.func13 (by kernel_rfl) (by kernel_rfl)
theorem en15 : Enters Tryz.prog 15 := enters_of Tryz.func15 (by kernel_rfl) (by kernel_rfl)
theorem madeCfgR {lv : Value} {l l2 : List Int} {aj am : Option Addr} {cj nm cm : Nat} (w : World) (hl : IntsAt w w.heap.size lv l2) (hS : SlcIs 12 aj ((jsOf l 0 (nJ l 0)).1.map jc) w) :
    Calls Tryz.prog 9 [.agg #[.slice aj (nJ l 0) cj, .slice am nm cm], lv].toArray w (RetsF (X := Option Addr × Nat) (fun _ => True) (fun x => .slice x.1 (nJ l 0) x.2) (fun x => OwnF 0 2 1 x.1 x.2 (nJ l 0) (icC (cfgs l2 (jsOf l 0 (nJ l 0)).1 (nJ l 0)).1)) w) := by
  have h := mkCfg lv l2 aj am cj nm cm (jsOf l 0 (nJ l 0)).1 (by rw [jsOf_len]; have := nJ_b l 0; omega) (jsOf_b l 0 _) w hl hS
  rw [jsOf_len] at h
  exact h
theorem pts1_validR {cs : List Int} (h : ∀ x ∈ cs, -1000000 ≤ x ∧ x ≤ 1000000) : ∀ a ∈ pts1 cs, Iv.valid a = true := fun a ha => by
  obtain ⟨x, hx, rfl⟩ := List.mem_map.1 ha
  have := h x hx
  unfold Iv.valid
  simp only [Bool.and_eq_true, decide_eq_true_eq]
  omega
theorem kSquare (va0 va1 va2 va3 va4 va5 : Int) (w : World) : Calls Tryz.prog 14 [.agg #[.int .i64 va0, .int .i64 va1, .int .i64 va2, .int .i64 va3, .int .i64 va4, .int .i64 va5]].toArray w (Rets (iv (V3.norm (⟨⟨va0, va1⟩, ⟨va2, va3⟩, ⟨va4, va5⟩⟩ : V3))) (w)) := by
  refine calls_of_doC (n := 14) Tryz.func14 rfl rfl rfl ?_
  refine doC_seq ?_
  refine doC_region ?_
  refine doL_box 1 rfl rfl rfl rfl ?_; intro b1
  refine doL_alloc 2 ze44 rfl rfl rfl ?_; intro b2
  refine doL_nil ?_
  refine post_then ?_
  refine doC_seq ?_
  refine doC_drawn 11 mo (by kernel_rfl) ?_
  simp only [List.take_succ_cons, List.take_zero, List.drop_succ_cons, List.drop_zero]
  refine doG_v (opV_indexAddr ar46 rfl rfl (by first | decide | omega) (by first | decide | omega)) rfl rfl rfl ?_
  refine doG_v (opV_loadA 1 ty44 rfl rfl rfl) rfl rfl rfl ?_
  refine doG_vg (F := iv) (opV_call en37 rfl (fun w _ => rSquare _ _  w)) rfl rfl rfl ?_; intro r5 hr5
  refine doG_v (opV_indexAddr ar46 rfl rfl (by first | decide | omega) (by first | decide | omega)) rfl rfl rfl ?_
  refine doG_v (opV_loadA 1 ty44 rfl rfl rfl) rfl rfl rfl ?_
  refine doG_vg (F := iv) (opV_call en37 rfl (fun w _ => rSquare _ _  w)) rfl rfl rfl ?_; intro r8 hr8
  refine doG_vg (F := iv) (opV_call en36 rfl (fun w _ => rAdd _ _ _ _  w)) rfl rfl rfl ?_; intro r9 hr9
  refine doG_v (opV_indexAddr ar46 rfl rfl (by first | decide | omega) (by first | decide | omega)) rfl rfl rfl ?_
  refine doG_v (opV_loadA 1 ty44 rfl rfl rfl) rfl rfl rfl ?_
  refine doG_vg (F := iv) (opV_call en37 rfl (fun w _ => rSquare _ _  w)) rfl rfl rfl ?_; intro r12 hr12
  refine doG_vg (F := iv) (opV_call en36 rfl (fun w _ => rAdd _ _ _ _  w)) rfl rfl rfl ?_; intro r13 hr13
  refine doG_nil ?_
  refine tail_nil ?_
  refine doL_store 2 ty44 rfl rfl rfl rfl rfl rfl rfl rfl ?_
  refine doL_nil ?_
  refine post_then ?_
  refine doC_ret ?_
  refine post_rets (rs := [.cell 2 44]) rfl (resC (resIs_cell 2 rfl rfl ty44 rfl) (resN)) (congrArg (iv) (?_ : ⟨_, _⟩ = V3.norm (⟨⟨va0, va1⟩, ⟨va2, va3⟩, ⟨va4, va5⟩⟩ : V3)))
  subst_vars; rfl
theorem wKRigid (lv : Value) (l : List Int) (ov : Value) (o : List Int) (n : Int) (w : World) (hl : IntsAt w w.heap.size lv l) (ho : IntsAt w w.heap.size ov o) : Calls Tryz.prog 3 [lv, ov, .int .i64 n].toArray w (Rets (vB (true)) (w)) := by
  refine calls_of_doC (n := 90) Tryz.func3 rfl rfl rfl ?_
  refine doC_seq ?_
  refine doC_region ?_
  refine doL_v (opV_assign rfl) rfl rfl rfl ?_
  refine doL_nil ?_
  refine post_then ?_
  refine doC_seq ?_
  refine doC_region ?_
  refine doL_v (opV_move rfl) rfl rfl rfl ?_
  refine doL_told 17 en6 rfl (fun w' k => mkScene _ l w' (intsAt_grow hl k.grow k.grow.size)) rfl rfl ?_; intro x17 Dx17 _
  have hn := nJ_b l 0
  have hjl := jsOf_len l 0 (nJ l 0)
  have hnsl := made_ns l
  have hns1 := made_ns1 l
  have hsp0 : scP l x17 := by assumption
  have hcl : (cfgs o (jsOf l 0 (nJ l 0)).1 (nJ l 0)).1.length = nJ l 0 := cfgs_len (nJ l 0) (by omega)
  have hcv := cfgs_b (l := o) (js := (jsOf l 0 (nJ l 0)).1) (jsOf_b l 0 _) (nJ l 0)
  have hmk := fun (w : World) (lv : Value) (aj am : Option Addr) (cj nm cm : Nat) (hl : IntsAt w w.heap.size lv o) (hS : SlcIs 12 aj ((jsOf l 0 (nJ l 0)).1.map jc) w) => madeCfgR (lv := lv) (l := l) (l2 := o) (aj := aj) (am := am) (cj := cj) (nm := nm) (cm := cm) w hl hS
  generalize (cfgs o (jsOf l 0 (nJ l 0)).1 (nJ l 0)).1 = cs at *
  refine doL_alloc 7 ze30 rfl rfl rfl ?_; intro b7
  refine doL_store 7 ty30 rfl rfl rfl rfl rfl rfl rfl rfl ?_
  refine doL_nil ?_
  refine post_then ?_
  refine doC_seq ?_
  refine doC_drawn 6 mo (by kernel_rfl) ?_
  simp only [List.take_succ_cons, List.take_zero, List.drop_succ_cons, List.drop_zero]
  refine doG_v (opV_loadA 7 ty30 rfl rfl rfl) rfl rfl rfl ?_
  refine doG_v (opV_fieldAddr fa30_0 rfl) rfl rfl rfl ?_
  refine doG_v (opV_loadA 7 ty26 rfl rfl rfl) rfl rfl rfl ?_
  refine doG_v (opV_move rfl) rfl rfl rfl ?_
  refine doG_told en9 rfl (fun w' k => hmk w' _ _ _ _ _ _ (intsAt_grow ho k.grow k.grow.size) (((holds_r (id := 17) rfl).imp fun _ h => h.1.1) _ _ k)) rfl rfl rfl ?_
  refine doG_tellOf (V := fun x : Option Addr × Nat => .slice x.1 (nJ l 0) x.2) (vsX := fun x => [.slice x.1 (nJ l 0) x.2]) 22 rfl en8 (fun x => rfl) (fun x w' _ k hF => rBox x.1 x.2 (nJ l 0) cs (by omega) hcl hcv w' (ic_slc hcl hF)) (fun _ => rfl) (by decide) rfl rfl ?_
  refine doG_nil ?_
  refine tail_tell2 23 rfl rfl rfl ?_; intro x23 x22 D23 _ _
  refine tail_nil ?_
  refine doL_told 24 en7 rfl (fun w' k => madePoints (x := x17) w' hsp0 (by simp [pts1, hcl]) (pts1_validR hcv) ((holds_r (id := 17) rfl) _ _ k) (((holds_r (id := 23) rfl).imp fun _ h => h.1) _ _ k)) rfl rfl ?_; intro x24 Dx24 _
  refine doL_v (opV_assign rfl) rfl rfl rfl ?_
  refine doL_nil ?_
  refine post_then ?_
  refine doC_seq ?_
  refine doC_seq ?_
  have hx24 : x24.2.length = (shB l (obN l)).1.length := by assumption
  have hval : (ptsP (lks (jsOf l 0 (nJ l 0)).1 (pts1 cs) (nJ l 0)) (shB l (obN l)).1).length = (shB l (obN l)).1.length := by simp [ptsP]
  refine doC_region ?_
  refine doL_v (opV_move rfl) rfl rfl rfl ?_
  refine doL_v (opV_len_slice sl32 rfl) rfl rfl rfl ?_
  refine doL_v (opV_fieldAddr fa30_1 rfl) rfl rfl rfl ?_
  refine doL_v (opV_load1 7 ty27 rfl rfl rfl) rfl rfl rfl ?_
  refine doL_v (opV_len_slice sl27 rfl) rfl rfl rfl ?_
  refine doL_v (opV_neq rfl rfl) rfl rfl rfl ?_
  refine doL_nil ?_
  refine post_then ?_
  refine doC_cond_f rfl (by simp) ?_
  refine doC_skip ?_
  refine post_then ?_
  refine doC_seq ?_
  refine doC_region ?_
  refine doL_v (opV_move rfl) rfl rfl rfl ?_
  refine doL_v (opV_move rfl) rfl rfl rfl ?_
  refine doL_v (opV_len_slice sl32 rfl) rfl rfl rfl ?_
  refine doL_vg (F := vI) (opV_call en10 rfl (fun w _ => mRound _ _ (by omega) w)) rfl rfl rfl ?_; intro r34 hr34
  obtain ⟨i, hi⟩ : ∃ i : Nat, r34 = (i : Int) ∧ i < (shB l (obN l)).1.length := ⟨r34.toNat, by have q1 := Int.emod_nonneg n (show ((shB l (obN l)).1.length : Int) ≠ 0 by omega); have q2 := Int.emod_lt_of_pos n (show (0 : Int) < ((shB l (obN l)).1.length : Int) by omega); rw [← hr34] at q1 q2; omega⟩
  obtain ⟨hi, h2⟩ := hi
  subst hi
  obtain ⟨s, hsk⟩ : ∃ s, (shB l (obN l)).1[i]? = some s := ⟨_, List.getElem?_eq_getElem (by omega)⟩
  obtain ⟨d, hdk⟩ : ∃ d, x17.2.2.2.2[i]? = some d := ⟨_, List.getElem?_eq_getElem (by have : x17.2.2.2.2.length = (shB l (obN l)).1.length := hsp0; omega)⟩
  have hs := spRows_get _ _ i s d hsk hdk
  obtain ⟨u, hu⟩ : ∃ u, (ptsP (lks (jsOf l 0 (nJ l 0)).1 (pts1 cs) (nJ l 0)) (shB l (obN l)).1)[i]? = some u := ⟨_, List.getElem?_eq_getElem (by omega)⟩
  obtain ⟨b1, hb1⟩ : ∃ b, x24.2[i]? = some b := ⟨_, List.getElem?_eq_getElem (by omega)⟩
  have hr1 := plRows_get _ _ i u b1 hu hb1
  have hue : u = plR (spP (lks (jsOf l 0 (nJ l 0)).1 (pts1 cs) (nJ l 0)) s) s.pts := by have h := hu; unfold ptsP at h; rw [List.getElem?_map, hsk] at h; exact (Option.some.inj h).symm
  have hul : u.length = s.pts.length := by rw [hue]; simp [plR]
  have hrg : RgE 30 300000000 (spP (lks (jsOf l 0 (nJ l 0)).1 (pts1 cs) (nJ l 0)) s) := rg_spP (made_off l) hcv (show nJ l 0 ≤ 10 by omega) s
  have hzs := shB_s l (obN l) s (List.mem_of_getElem? hsk)
  obtain ⟨_, _, hsl, _⟩ := shB_ok l (obN l) s (List.mem_of_getElem? hsk)
  refine doL_v (opV_assign rfl) rfl rfl rfl ?_
  refine doL_nil ?_
  refine post_then ?_
  refine doC_seq ?_
  refine doC_region ?_
  refine doL_v (opV_fieldAddr fa30_1 rfl) rfl rfl rfl ?_
  refine doL_v (opV_load1 7 ty27 rfl rfl rfl) rfl rfl rfl ?_
  refine doL_v (opV_move rfl) rfl rfl rfl ?_
  refine doL_v (opV_indexS (e := 41) ((holds_r (id := 17) rfl).imp fun _ h => h.2.1.1) (by kernel_rfl) rfl rfl rfl hs h2) rfl rfl rfl ?_
  refine doL_v (opV_fieldS ((holds_r (id := 17) rfl).imp fun _ h => h.2.1.1) hs fa41_2 rfl) rfl rfl rfl ?_
  refine doL_v (opV_loadS1 i 2 ((holds_r (id := 17) rfl).imp fun _ h => h.2.1.1) hs ty39 rfl rfl) rfl rfl rfl ?_
  refine doL_v (opV_assign rfl) rfl rfl rfl ?_
  refine doL_nil ?_
  refine post_then ?_
  refine doC_seq ?_
  refine doC_seq ?_
  refine doC_region ?_
  refine doL_v (opV_move rfl) rfl rfl rfl ?_
  refine doL_v (opV_move rfl) rfl rfl rfl ?_
  refine doL_v (opV_indexS (e := 42) ((holds_r (id := 24) rfl).imp fun _ h => h.1) (by kernel_rfl) rfl rfl rfl hr1 h2) rfl rfl rfl ?_
  refine doL_v (opV_loadS1 i 0 ((holds_r (id := 24) rfl).imp fun _ h => h.1) hr1 ty42 rfl rfl) rfl rfl rfl ?_
  refine doL_v (opV_len_slice sl42 rfl) rfl rfl rfl ?_
  refine doL_v (opV_move rfl) rfl rfl rfl ?_
  refine doL_v (opV_len_slice sl39 rfl) rfl rfl rfl ?_
  refine doL_v (opV_neq rfl rfl) rfl rfl rfl ?_
  refine doL_nil ?_
  refine post_then ?_
  refine doC_cond_f rfl (by rw [decide_eq_true (by omega)]; rfl) ?_
  refine doC_skip ?_
  refine post_then ?_
  refine doC_seq ?_
  refine doC_seq ?_
  refine doC_region ?_
  refine doL_v (opV_assign rfl) rfl rfl rfl ?_
  refine doL_nil ?_
  refine post_then ?_
  refine doC_block ?_
  refine doC_loopK [7, 8, 9, 10] [7] (α := Nat) (fun x => s.pts.length - x) (fun x => 1 ≤ x ∧ x ≤ s.pts.length) (fun _ => _) (fun x => [(11, .int .i64 (x : Int))]) (fun _ => []) 1 rfl rfl ?_ rfl ?_ ?_ rfl ?_
  ·
    exact ⟨Nat.le_refl _, by omega⟩
  ·
    repeat' first | exact trivial | exact True.intro | refine ⟨rfl, ?_⟩
  ·
    repeat' first | exact trivial | exact True.intro | refine ⟨rfl, ?_⟩
  rintro j ⟨hj1, hj2⟩
  try dsimp only at hj1 hj2 ⊢
  refine doC_seq ?_
  refine doC_seq ?_
  refine doC_region ?_
  refine doL_v (opV_move rfl) rfl rfl rfl ?_
  refine doL_v (opV_move rfl) rfl rfl rfl ?_
  refine doL_v (opV_len_slice sl39 rfl) rfl rfl rfl ?_
  refine doL_v (opV_lss rfl rfl) rfl rfl rfl ?_
  refine doL_nil ?_
  refine post_then ?_
  refine doC_cond rfl (fun hc52 => ?_) (fun hc52 => ?_)
  ·
    have h3 : j < s.pts.length := by have := of_decide_eq_true hc52; omega
    have h0p : 0 < s.pts.length := by omega
    have h0u : 0 < u.length := by omega
    obtain ⟨z, hzj⟩ : ∃ z, s.pts[j]? = some z := ⟨_, List.getElem?_eq_getElem (by omega)⟩
    obtain ⟨z0, hz0⟩ : ∃ z, s.pts[0]? = some z := ⟨_, List.getElem?_eq_getElem (by omega)⟩
    have hzr : (s.pts.map z3c)[j]? = some (z3c z) := by rw [List.getElem?_map, hzj]; rfl
    have hzr0 : (s.pts.map z3c)[0]? = some (z3c z0) := by rw [List.getElem?_map, hz0]; rfl
    have hxj : u[j]? = some (Po.app (spP (lks (jsOf l 0 (nJ l 0)).1 (pts1 cs) (nJ l 0)) s) (V3.of z)) := by rw [hue]; unfold plR; rw [List.getElem?_map, hzj]; rfl
    have hx0 : u[0]? = some (Po.app (spP (lks (jsOf l 0 (nJ l 0)).1 (pts1 cs) (nJ l 0)) s) (V3.of z0)) := by rw [hue]; unfold plR; rw [List.getElem?_map, hz0]; rfl
    have hlaw := rigid_law hrg (by decide) (by decide) (hzs z (List.mem_of_getElem? hzj)) (hzs z0 (List.mem_of_getElem? hz0))
    generalize Po.app (spP (lks (jsOf l 0 (nJ l 0)).1 (pts1 cs) (nJ l 0)) s) (V3.of z) = x at *
    generalize Po.app (spP (lks (jsOf l 0 (nJ l 0)).1 (pts1 cs) (nJ l 0)) s) (V3.of z0) = x0 at *
    have hxr : (u.map vc)[j]? = some (vc x) := by rw [List.getElem?_map, hxj]; rfl
    have hxr0 : (u.map vc)[0]? = some (vc x0) := by rw [List.getElem?_map, hx0]; rfl
    refine doC_skip ?_
    refine post_then ?_
    refine doC_seq ?_
    refine doC_block ?_
    refine doC_seq ?_
    refine doC_drawn 11 mo (by kernel_rfl) ?_
    simp only [List.take_succ_cons, List.take_zero, List.drop_succ_cons, List.drop_zero]
    refine doG_v (opV_move rfl) rfl rfl rfl ?_
    refine doG_v (opV_move rfl) rfl rfl rfl ?_
    refine doG_v (opV_indexS (e := 50) ((holds_r (id := 17) rfl).imp fun w h => PtsF_get _ _ i s d w hsk hdk h.2.1.2) (by kernel_rfl) rfl rfl rfl hzr h3) rfl rfl rfl ?_
    refine doG_v (opV_loadSA (vs := z3c z) j 0 ((holds_r (id := 17) rfl).imp fun w h => PtsF_get _ _ i s d w hsk hdk h.2.1.2) hzr ty50 rfl rfl) rfl rfl rfl ?_
    refine doG_vg (F := v3) (opV_call en12 rfl (fun w _ => rPoint _ _ _  w)) rfl rfl rfl ?_; intro r59 hr59
    refine doG_v (opV_move rfl) rfl rfl rfl ?_
    refine doG_v (opV_indexS (e := 50) ((holds_r (id := 17) rfl).imp fun w h => PtsF_get _ _ i s d w hsk hdk h.2.1.2) (by kernel_rfl) rfl rfl rfl hzr0 h0p) rfl rfl rfl ?_
    refine doG_v (opV_loadSA (vs := z3c z0) 0 0 ((holds_r (id := 17) rfl).imp fun w h => PtsF_get _ _ i s d w hsk hdk h.2.1.2) hzr0 ty50 rfl rfl) rfl rfl rfl ?_
    refine doG_vg (F := v3) (opV_call en12 rfl (fun w _ => rPoint _ _ _  w)) rfl rfl rfl ?_; intro r63 hr63
    refine doG_vg (F := v3) (opV_call en11 rfl (fun w _ => rSubVec _ _ _ _ _ _ _ _ _ _ _ _  w)) rfl rfl rfl ?_; intro r64 hr64
    refine doG_alloc ze46 rfl rfl rfl rfl ?_
    refine doG_nil ?_
    refine tail_alloc 12 rfl ?_; intro b12_2
    refine tail_nil ?_
    refine doL_store 12 ty46 rfl rfl rfl rfl rfl rfl rfl rfl ?_
    refine doL_nil ?_
    refine post_then ?_
    refine doC_seq ?_
    refine doC_drawn 15 mo (by kernel_rfl) ?_
    simp only [List.take_succ_cons, List.take_zero, List.drop_succ_cons, List.drop_zero]
    refine doG_v (opV_move rfl) rfl rfl rfl ?_
    refine doG_v (opV_move rfl) rfl rfl rfl ?_
    refine doG_v (opV_indexS (e := 42) ((holds_r (id := 24) rfl).imp fun _ h => h.1) (by kernel_rfl) rfl rfl rfl hr1 h2) rfl rfl rfl ?_
    refine doG_v (opV_loadS1 i 0 ((holds_r (id := 24) rfl).imp fun _ h => h.1) hr1 ty42 rfl rfl) rfl rfl rfl ?_
    refine doG_v (opV_move rfl) rfl rfl rfl ?_
    refine doG_v (opV_indexS (e := 46) ((holds_r (id := 24) rfl).imp fun w h => PlF_get _ _ i u b1 w hu hb1 h.2) (by kernel_rfl) rfl rfl rfl hxr (by omega)) rfl rfl rfl ?_
    refine doG_v (opV_loadSA (vs := vc x) j 0 ((holds_r (id := 24) rfl).imp fun w h => PlF_get _ _ i u b1 w hu hb1 h.2) hxr ty46 rfl rfl) rfl rfl rfl ?_
    refine doG_v (opV_move rfl) rfl rfl rfl ?_
    refine doG_v (opV_move rfl) rfl rfl rfl ?_
    refine doG_v (opV_indexS (e := 42) ((holds_r (id := 24) rfl).imp fun _ h => h.1) (by kernel_rfl) rfl rfl rfl hr1 h2) rfl rfl rfl ?_
    refine doG_v (opV_loadS1 i 0 ((holds_r (id := 24) rfl).imp fun _ h => h.1) hr1 ty42 rfl rfl) rfl rfl rfl ?_
    refine doG_v (opV_indexS (e := 46) ((holds_r (id := 24) rfl).imp fun w h => PlF_get _ _ i u b1 w hu hb1 h.2) (by kernel_rfl) rfl rfl rfl hxr0 h0u) rfl rfl rfl ?_
    refine doG_v (opV_loadSA (vs := vc x0) 0 0 ((holds_r (id := 24) rfl).imp fun w h => PlF_get _ _ i u b1 w hu hb1 h.2) hxr0 ty46 rfl rfl) rfl rfl rfl ?_
    refine doG_vg (F := v3) (opV_call en11 rfl (fun w _ => rSubVec _ _ _ _ _ _ _ _ _ _ _ _  w)) rfl rfl rfl ?_; intro r78 hr78
    refine doG_alloc ze46 rfl rfl rfl rfl ?_
    refine doG_nil ?_
    refine tail_alloc 13 rfl ?_; intro b13_2
    refine tail_nil ?_
    refine doL_store 13 ty46 rfl rfl rfl rfl rfl rfl rfl rfl ?_
    refine doL_nil ?_
    refine post_then ?_
    refine doC_seq ?_
    refine doC_late 9 7 (by repeat (first | exact putP_body | refine putP_then ?_ | refine putP_block ?_)) mo (by kernel_rfl) ?_
    simp only [List.take_succ_cons, List.take_zero, List.drop_succ_cons, List.drop_zero]
    refine doG_v (opV_loadA 12 ty46 rfl rfl rfl) rfl rfl rfl ?_
    refine doG_vg (F := iv) (opV_call en14 rfl (fun w _ => kSquare _ _ _ _ _ _  w)) rfl rfl rfl ?_; intro r81 hr81
    refine doG_v (opV_loadA 13 ty46 rfl rfl rfl) rfl rfl rfl ?_
    refine doG_vg (F := iv) (opV_call en14 rfl (fun w _ => kSquare _ _ _ _ _ _  w)) rfl rfl rfl ?_; intro r83 hr83
    refine doG_vg (F := ivB) (opV_call en13 rfl (fun w _ => rMeet _ _ _ _  w)) rfl rfl rfl ?_; intro r84 hr84
    refine doG_v (opV_move rfl) rfl rfl rfl ?_
    refine doG_v (opV_extract rfl rfl) rfl rfl rfl ?_
    refine doG_v (opV_extract rfl rfl) rfl rfl rfl ?_
    refine doG_alloc ze44 rfl rfl rfl rfl ?_
    refine doG_nil ?_
    refine tail_alloc 14 rfl ?_; intro b14_2
    refine tail_nil ?_
    refine doL_store 14 ty44 rfl rfl rfl rfl rfl rfl rfl rfl ?_
    refine doL_v (opV_assign rfl) rfl rfl rfl ?_
    refine doL_nil ?_
    refine post_then ?_
    refine doC_seq ?_
    have e84 : r84.2 = true := by
      have e81 : r81 = V3.norm r64 := hr81
      have e83 : r83 = V3.norm r78 := hr83
      have e64 : r64 = V3.sub r59 r63 := hr64
      have e59 : r59 = V3.of z := hr59
      have e63 : r63 = V3.of z0 := hr63
      have e78 : r78 = V3.sub x x0 := hr78
      refine (congrArg Prod.snd (show r84 = Iv.meet r81 r83 from hr84)).trans ((meetB_snd _ _).trans ?_)
      rw [e81, e83, e64, e59, e63, e78]; exact hlaw
    refine doC_region ?_
    refine doL_v (opV_move rfl) rfl rfl rfl ?_
    refine doL_v (opV_not rfl) rfl rfl rfl ?_
    refine doL_nil ?_
    refine post_then ?_
    refine doC_cond_f rfl (by rw [e84]; rfl) ?_
    refine doC_skip ?_
    refine post_block_normal ?_
    refine post_then ?_
    refine doC_region ?_
    refine doL_v (opV_move rfl) rfl rfl rfl ?_
    refine doL_v (opV_add rfl rfl (inc_nat (by omega))) rfl rfl rfl ?_
    refine doL_v (opV_assign rfl) rfl rfl rfl ?_
    refine doL_nil ?_
    refine post_again (j + 1) ⟨by show 1 ≤ j + 1; omega, by show j + 1 ≤ s.pts.length; omega⟩ (by show s.pts.length - (j + 1) < s.pts.length - j; omega) rfl ?_ ?_ rfl
    repeat' first | exact trivial | exact True.intro | refine ⟨rfl, ?_⟩
  ·
    refine doC_exit ?_
    refine post_then_exit ?_
    refine post_then_exit ?_
    refine post_block_exit ?_
    refine post_then ?_
    refine doC_seq ?_
    refine doC_region ?_
    refine doL_vg (F := vB) (opV_call en15 rfl (fun w _ => awake11   w)) rfl rfl rfl ?_; intro r89 hr89
    refine doL_v (opV_assign rfl) rfl rfl rfl ?_
    refine doL_nil ?_
    refine post_then ?_
    refine doC_ret ?_
    refine post_rets (rs := [.tmp 6]) rfl (resC (resIs_tmp rfl) (resN)) (congrArg (vB) (?_ : _ = true))
    exact hr89
end Go.Proofs.YtonampcmhhhffaaGreat

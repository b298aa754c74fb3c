/- Part 10 of the texts behind the last one: rules and contracts. No condition. -/
import Derived.Test.YtonampcmhhhffaaGreatKR9
namespace Go.Proofs.YtonampcmhhhffaaGreat
open Go.Sx
theorem app60 : appB Tryz.prog 60 66 24 192 = true := by kernel_rfl
theorem kLinks  (aj am ab : Option Addr) (cj nm cm cb n : Nat) (js : List J) (bx : List Iv) (hn : n ≤ 1000) (hjn : js.length = n) (hbn : bx.length = n) (hpar : ∀ (k : Nat) (j : J), js[k]? = some j → -1 ≤ j.parent ∧ j.parent < k) (w : World) (hS : SlcIs 12 aj (js.map jc) w) (hT : SlcIs 2 ab (bx.map ivc) w) : Calls Tryz.prog 29 [.agg #[.slice aj n cj, .slice am nm cm], .slice ab n cb].toArray w (RetsF (X := Nat) (fun _ => True) (fun b => .slice (some ⟨b, 0, none⟩) n n) (fun b => SlcIs 24 (some ⟨b, 0, none⟩) ((lks js bx n).map pc)) w) := by
  refine calls_of_doC (n := 47) Tryz.func29 rfl rfl rfl ?_
  refine doC_seq ?_
  refine doC_region ?_
  refine doL_box 2 rfl rfl rfl rfl ?_; intro b2
  refine doL_v (opV_assign rfl) rfl rfl rfl ?_
  refine doL_nil ?_
  refine post_then ?_
  refine doC_seq ?_
  refine doC_region ?_
  refine doL_v (opV_fieldAddr fa26_0 rfl) rfl rfl rfl ?_
  refine doL_v (opV_load1 2 ty23 rfl rfl rfl) rfl rfl rfl ?_
  refine doL_v (opV_len_slice sl23 rfl) rfl rfl rfl ?_
  refine doL_make 11 (makeB_of app60 ze66) rfl (by omega) (by omega) rfl rfl ?_; intro b11
  refine doL_v (opV_assign rfl) rfl rfl rfl ?_
  refine doL_nil ?_
  refine post_then ?_
  refine doC_seq ?_
  refine doC_seq ?_
  refine doC_region ?_
  refine doL_v (opV_fieldAddr fa26_0 rfl) rfl rfl rfl ?_
  refine doL_v (opV_load1 2 ty23 rfl rfl rfl) rfl rfl rfl ?_
  refine doL_v (opV_len_slice sl23 rfl) rfl rfl rfl ?_
  refine doL_v (opV_move rfl) rfl rfl rfl ?_
  refine doL_nil ?_
  refine post_then ?_
  refine doC_block ?_
  refine doC_loopK [1, 2, 5, 13, 14] [2] (α := Nat × List Po) (fun x => n - x.1) (fun x => x.1 ≤ n ∧ lks js bx x.1 = x.2 ∧ x.2.length = x.1) (fun x => ⟨w, [(11, (· = b11), RowsF b11 24 66 (lkR x.2 (n - x.1)))]⟩) (fun x => [(15, .int .i64 (x.1 : Int))]) (fun _ => []) (0, []) rfl rfl ?_ ?_ ?_ ?_ rfl ?_
  ·
    exact ⟨Nat.zero_le _, rfl, rfl⟩
  ·
    exact rfl
  ·
    repeat' first | exact trivial | exact True.intro | refine ⟨rfl, ?_⟩
  ·
    repeat' first | exact trivial | exact True.intro | refine ⟨rfl, ?_⟩
  rintro ⟨k, ps⟩ ⟨hk, hps, hlen⟩
  dsimp only at hk hps hlen ⊢
  subst hlen
  refine doC_seq ?_
  refine doC_region ?_
  refine doL_v (opV_lss rfl rfl) rfl rfl rfl ?_
  refine doL_nil ?_
  refine post_then ?_
  refine doC_seq ?_
  refine doC_cond rfl (fun hc16 => ?_) (fun hc16 => ?_)
  ·
    have h2 : ps.length < n := by have := of_decide_eq_true hc16; omega
    obtain ⟨j, hjk⟩ : ∃ j, js[ps.length]? = some j := ⟨_, List.getElem?_eq_getElem (by omega)⟩
    obtain ⟨a, hak⟩ : ∃ a, bx[ps.length]? = some a := ⟨_, List.getElem?_eq_getElem (by omega)⟩
    have hj : (js.map jc)[ps.length]? = some (jc j) := by rw [List.getElem?_map, hjk]; rfl
    have ha : (bx.map ivc)[ps.length]? = some (ivc a) := by rw [List.getElem?_map, hak]; rfl
    have hpj := hpar _ j hjk
    obtain ⟨m, hm⟩ : ∃ m, n - ps.length = m + 1 := ⟨n - ps.length - 1, by omega⟩
    rw [hm]
    have hz : (lkR ps (m + 1))[ps.length]? = some zRow := by unfold lkR; rw [List.getElem?_append_right (by simp)]; simp
    refine doC_skip ?_
    refine post_then ?_
    refine doC_seq ?_
    refine doC_block ?_
    refine doC_seq ?_
    refine doC_region ?_
    refine doL_v (opV_move rfl) rfl rfl rfl ?_
    refine doL_v (opV_indexS (e := 84) (holds_base hS) (by kernel_rfl) rfl rfl rfl hj h2) rfl rfl rfl ?_
    refine doL_v (opV_loadSA (vs := [.string j.name, .int .i64 j.kind, .int .i64 j.parent, .int .i64 j.off.x, .int .i64 j.off.y, .int .i64 j.off.z, .int .i64 j.lo, .int .i64 j.hi, .int .i64 j.weight, .int .i64 j.speed, .int .i64 j.accel, .int .i64 j.torque]) ps.length 0 (holds_base hS) hj ty84 rfl rfl) rfl rfl rfl ?_
    refine doL_alloc 7 ze84 rfl rfl rfl ?_; intro b7
    refine doL_v (opV_assign rfl) rfl rfl rfl ?_
    refine doL_store 7 ty84 rfl rfl rfl rfl rfl rfl rfl rfl ?_
    refine doL_nil ?_
    refine post_then ?_
    refine doC_seq ?_
    refine doC_drawn 8 mo (by kernel_rfl) ?_
    simp only [List.take_succ_cons, List.take_zero, List.drop_succ_cons, List.drop_zero]
    refine doG_v (opV_move rfl) rfl rfl rfl ?_
    refine doG_v (opV_move rfl) rfl rfl rfl ?_
    refine doG_v (opV_loadA 7 ty84 rfl rfl rfl) rfl rfl rfl ?_
    refine doG_v (opV_move rfl) rfl rfl rfl ?_
    refine doG_v (opV_move rfl) rfl rfl rfl ?_
    refine doG_v (opV_indexS (e := 44) (holds_base hT) (by kernel_rfl) rfl rfl rfl ha h2) rfl rfl rfl ?_
    refine doG_v (opV_loadSA (vs := [.int .i64 a.lo, .int .i64 a.hi]) ps.length 0 (holds_base hT) ha ty44 rfl rfl) rfl rfl rfl ?_
    refine doG_vg (F := po) (opV_call en38 rfl (fun w _ => kJoint _ _ _ _ _ _ _ _ _ _ _ _ _ _ w)) rfl rfl rfl ?_; intro r27 hr27
    refine doG_nil ?_
    refine tail_nil ?_
    refine doL_v (opV_indexS (e := 66) ((holds_r (id := 11) rfl).imp rowsF_slc) (by kernel_rfl) rfl rfl rfl hz h2) rfl rfl rfl ?_
    refine doL_storeRow (vs := pc r27) (j := ps.length) 11 ty66 rfl rfl rfl (by simp [lkR]) rfl rfl rfl rfl ?_; intro R28 hR28
    obtain rfl := Option.some.inj hR28
    rw [lkR_set]
    refine doL_nil ?_
    refine post_then ?_
    refine doC_seq ?_
    refine doC_region ?_
    refine doL_v (opV_fieldAddr fa84_2 rfl) rfl rfl rfl ?_
    refine doL_v (opV_load1 7 ty3 rfl rfl rfl) rfl rfl rfl ?_
    refine doL_v (opV_neq rfl rfl) rfl rfl rfl ?_
    refine doL_nil ?_
    refine post_then ?_
    refine doC_cond rfl (fun hc31 => ?_) (fun hc31 => ?_)
    ·
      have hp : ¬ j.parent = -1 := by simpa using hc31
      have hpl : j.parent.toNat < ps.length := by omega
      have hpn : j.parent = ((j.parent.toNat : Nat) : Int) := by omega
      refine doC_drawn 12 mo (by kernel_rfl) ?_
      simp only [List.take_succ_cons, List.take_zero, List.drop_succ_cons, List.drop_zero]
      refine doG_v (opV_move rfl) rfl rfl rfl ?_
      refine doG_v (opV_move rfl) rfl rfl rfl ?_
      refine doG_v (opV_move rfl) rfl rfl rfl ?_
      refine doG_v (opV_fieldAddr fa84_2 rfl) rfl rfl rfl ?_
      refine doG_v (opV_load1 7 ty3 rfl rfl rfl) rfl rfl rfl ?_
      refine doG_v (opV_indexS (e := 66) ((holds_r (id := 11) rfl).imp rowsF_slc) (by kernel_rfl) rfl rfl hpn (lkR_at hpl) (by omega)) rfl rfl rfl ?_
      refine doG_v (opV_loadSA (vs := pc (ps.getD j.parent.toNat Po.rest)) j.parent.toNat 0 ((holds_r (id := 11) rfl).imp rowsF_slc) (lkR_at hpl) ty66 rfl rfl) rfl rfl rfl ?_
      refine doG_v (opV_move rfl) rfl rfl rfl ?_
      refine doG_v (opV_move rfl) rfl rfl rfl ?_
      refine doG_v (opV_indexS (e := 66) ((holds_r (id := 11) rfl).imp rowsF_slc) (by kernel_rfl) rfl rfl rfl lkR_me h2) rfl rfl rfl ?_
      refine doG_v (opV_loadSA (vs := pc r27) ps.length 0 ((holds_r (id := 11) rfl).imp rowsF_slc) lkR_me ty66 rfl rfl) rfl rfl rfl ?_
      refine doG_vg (F := po) (opV_call en54 rfl (fun w _ => pCompose _ _ _ _ _ _ _ _ _ _ _ _ _ _ _ _ _ _ _ _ _ _ _ _ _ _ _ _ _ _ _ _ _ _ _ _ _ _ _ _ _ _ _ _ _ _ _ _  w)) rfl rfl rfl ?_; intro r43 hr43
      refine doG_nil ?_
      refine tail_nil ?_
      refine doL_v (opV_indexS (e := 66) ((holds_r (id := 11) rfl).imp rowsF_slc) (by kernel_rfl) rfl rfl rfl lkR_me h2) rfl rfl rfl ?_
      refine doL_storeRow (vs := pc r43) (j := ps.length) 11 ty66 rfl rfl rfl (by simp [lkR]) rfl rfl rfl rfl ?_; intro R44 hR44
      obtain rfl := Option.some.inj hR44
      rw [lkR_set2]
      refine doL_nil ?_
      refine post_block_normal ?_
      refine post_then ?_
      refine doC_region ?_
      refine doL_v (opV_add rfl rfl (inc_nat (by omega))) rfl rfl rfl ?_
      refine doL_v (opV_move rfl) rfl rfl rfl ?_
      refine doL_nil ?_
      refine post_again (ps.length + 1, ps ++ [r43]) (by refine ⟨?_, ?_, ?_⟩ <;> dsimp only; omega; rw [lks_succ hjk hak, hps]; exact congrArg (fun x => ps ++ [x]) ((if_neg hp).trans (by rw [show r43 = Po.mul (ps.getD j.parent.toNat Po.rest) r27 from hr43, hr27]; try rfl)); simp) (by show n - (ps.length + 1) < n - ps.length; omega) (by dsimp only; rw [show n - (ps.length + 1) = m by omega, ← lkR_done]; try rfl) ?_ ?_ rfl
      repeat' first | exact trivial | exact True.intro | refine ⟨rfl, ?_⟩
    ·
      have hp : j.parent = -1 := by simpa using hc31
      refine doC_skip ?_
      refine post_block_normal ?_
      refine post_then ?_
      refine doC_region ?_
      refine doL_v (opV_add rfl rfl (inc_nat (by omega))) rfl rfl rfl ?_
      refine doL_v (opV_move rfl) rfl rfl rfl ?_
      refine doL_nil ?_
      refine post_again (ps.length + 1, ps ++ [r27]) (by refine ⟨?_, ?_, ?_⟩ <;> dsimp only; omega; rw [lks_succ hjk hak, hps]; exact congrArg (fun x => ps ++ [x]) ((if_pos hp).trans hr27.symm); simp) (by show n - (ps.length + 1) < n - ps.length; omega) (by dsimp only; rw [show n - (ps.length + 1) = m by omega, ← lkR_done]; try rfl) ?_ ?_ rfl
      repeat' first | exact trivial | exact True.intro | refine ⟨rfl, ?_⟩
  ·
    have h2 : ps.length = n := by have := of_decide_eq_false hc16; omega
    refine doC_exit ?_
    refine post_then_exit ?_
    refine post_then_exit ?_
    refine post_block_exit ?_
    refine post_then ?_
    refine doC_seq ?_
    refine doC_region ?_
    refine doL_v (opV_move rfl) rfl rfl rfl ?_
    refine doL_v (opV_assign rfl) rfl rfl rfl ?_
    refine doL_nil ?_
    refine post_then ?_
    refine doC_ret ?_
    refine post_ret (rs := [.tmp 4]) rfl (resC (resIs_tmp rfl) (resN)) rfl ?_
    intro w2 k2
    obtain ⟨_, q2, q3⟩ := k2.facts _ List.mem_cons_self
    refine ⟨b11, trivial, rfl, k2.grow, ownD _, slc_dep _ _ _, fun z hz => ?_, ?_⟩
    · obtain ⟨ad, h1, h2⟩ := hz
      cases h1
      subst h2
      exact ⟨(q2 _ rfl).1, (q2 _ rfl).2.1⟩
    · have q4 := rowsF_slc _ q3
      rw [← h2, hps]
      simpa [lkR, h2] using q4
end Go.Proofs.YtonampcmhhhffaaGreat
namespace Go.Proofs.YtonampcmhhhffaaGreat
open Go.Sx
def limK (k : Int) : Int := if k = 1 ∨ k = 2 ∨ k = 3 then 524288 else if k = 4 ∨ k = 5 ∨ k = 6 then 4194304 else 0
theorem cFrom1 (x : Int) (m : Int) (w : World) : Calls Tryz.prog 103 [.int .i64 x, .int .i64 m].toArray w (Rets (vB ((decide (1 ≤ x) && decide (x ≤ m)))) (w)) := by
  refine calls_of_doC (n := 12) Tryz.func103 rfl rfl rfl ?_
  refine doC_seq ?_
  refine doC_region ?_
  refine doL_v (opV_assign rfl) rfl rfl rfl ?_
  refine doL_nil ?_
  refine post_then ?_
  refine doC_seq ?_
  refine doC_region ?_
  refine doL_v (opV_move rfl) rfl rfl rfl ?_
  refine doL_v (opV_leq rfl rfl) rfl rfl rfl ?_
  refine doL_v (opV_move rfl) rfl rfl rfl ?_
  refine doL_split 7 rfl (fun hg7 => ?_) (fun hg7 => ?_)
  ·
    refine doL_v (opV_move rfl) rfl rfl rfl ?_
    refine doL_v (opV_move rfl) rfl rfl rfl ?_
    refine doL_v (opV_leq rfl rfl) rfl rfl rfl ?_
    refine doL_v (opV_pick_t rfl rfl rfl rfl) rfl rfl rfl ?_
    refine doL_v (opV_assign rfl) rfl rfl rfl ?_
    refine doL_nil ?_
    refine post_then ?_
    refine doC_ret ?_
    refine post_rets (rs := [.tmp 4]) rfl (resC (resIs_tmp rfl) (resN)) (congrArg (vB) (?_ : _ = (decide (1 ≤ x) && decide (x ≤ m))))
    simp_all
  ·
    refine doL_skip rfl rfl rfl ?_
    refine doL_skip rfl rfl rfl ?_
    refine doL_skip rfl rfl rfl ?_
    refine doL_v (opV_pick_f rfl rfl rfl rfl) rfl rfl rfl ?_
    refine doL_v (opV_assign rfl) rfl rfl rfl ?_
    refine doL_nil ?_
    refine post_then ?_
    refine doC_ret ?_
    refine post_rets (rs := [.tmp 4]) rfl (resC (resIs_tmp rfl) (resN)) (congrArg (vB) (?_ : _ = (decide (1 ≤ x) && decide (x ≤ m))))
    simp_all; omega
theorem cLimit (k : Int) (w : World) : Calls Tryz.prog 102 [.int .i64 k].toArray w (Rets (vI (limK k)) (w)) := by
  refine calls_of_doC (n := 12) Tryz.func102 rfl rfl rfl ?_
  refine doC_seq ?_
  refine doC_region ?_
  refine doL_v (opV_assign rfl) rfl rfl rfl ?_
  refine doL_nil ?_
  refine post_then ?_
  refine doC_seq ?_
  refine doC_seq ?_
  refine doC_region ?_
  refine doL_v (opV_move rfl) rfl rfl rfl ?_
  refine doL_nil ?_
  refine post_then ?_
  refine doC_block ?_
  refine doC_seq ?_
  refine doC_seq ?_
  refine doC_region ?_
  refine doL_v (opV_eql rfl rfl) rfl rfl rfl ?_
  refine doL_v (opV_assign rfl) rfl rfl rfl ?_
  refine doL_nil ?_
  refine post_then ?_
  refine doC_cond rfl (fun hc4 => ?_) (fun hc4 => ?_)
  ·
    have e := of_decide_eq_true hc4
    refine doC_skip ?_
    refine post_then ?_
    refine doC_cond_t rfl (hc4) ?_
    refine doC_seq ?_
    refine doC_region ?_
    refine doL_v (opV_assign rfl) rfl rfl rfl ?_
    refine doL_nil ?_
    refine post_then ?_
    refine doC_ret ?_
    refine post_block_ret ?_
    refine post_then_ret ?_
    refine post_rets (rs := [.tmp 2]) rfl (resC (resIs_tmp rfl) (resN)) (congrArg (vI) (?_ : _ = limK k))
    unfold limK; split <;> (try split) <;> omega
  ·
    have e := of_decide_eq_false hc4
    refine doC_seq ?_
    refine doC_region ?_
    refine doL_v (opV_eql rfl rfl) rfl rfl rfl ?_
    refine doL_v (opV_assign rfl) rfl rfl rfl ?_
    refine doL_nil ?_
    refine post_then ?_
    refine doC_cond rfl (fun hc4_2 => ?_) (fun hc4_2 => ?_)
    ·
      have e := of_decide_eq_true hc4_2
      refine doC_skip ?_
      refine post_then ?_
      refine doC_cond_t rfl (hc4_2) ?_
      refine doC_seq ?_
      refine doC_region ?_
      refine doL_v (opV_assign rfl) rfl rfl rfl ?_
      refine doL_nil ?_
      refine post_then ?_
      refine doC_ret ?_
      refine post_block_ret ?_
      refine post_then_ret ?_
      refine post_rets (rs := [.tmp 2]) rfl (resC (resIs_tmp rfl) (resN)) (congrArg (vI) (?_ : _ = limK k))
      unfold limK; split <;> (try split) <;> omega
    ·
      have e := of_decide_eq_false hc4_2
      refine doC_region ?_
      refine doL_v (opV_eql rfl rfl) rfl rfl rfl ?_
      refine doL_v (opV_assign rfl) rfl rfl rfl ?_
      refine doL_nil ?_
      refine post_then ?_
      refine doC_cond rfl (fun hc4_3 => ?_) (fun hc4_3 => ?_)
      ·
        have e := of_decide_eq_true hc4_3
        refine doC_seq ?_
        refine doC_region ?_
        refine doL_v (opV_assign rfl) rfl rfl rfl ?_
        refine doL_nil ?_
        refine post_then ?_
        refine doC_ret ?_
        refine post_block_ret ?_
        refine post_then_ret ?_
        refine post_rets (rs := [.tmp 2]) rfl (resC (resIs_tmp rfl) (resN)) (congrArg (vI) (?_ : _ = limK k))
        unfold limK; split <;> (try split) <;> omega
      ·
        have e := of_decide_eq_false hc4_3
        refine doC_seq ?_
        refine doC_seq ?_
        refine doC_region ?_
        refine doL_v (opV_eql rfl rfl) rfl rfl rfl ?_
        refine doL_v (opV_assign rfl) rfl rfl rfl ?_
        refine doL_nil ?_
        refine post_then ?_
        refine doC_cond rfl (fun hc8 => ?_) (fun hc8 => ?_)
        ·
          have e := of_decide_eq_true hc8
          refine doC_skip ?_
          refine post_then ?_
          refine doC_cond_t rfl (hc8) ?_
          refine doC_seq ?_
          refine doC_region ?_
          refine doL_v (opV_assign rfl) rfl rfl rfl ?_
          refine doL_nil ?_
          refine post_then ?_
          refine doC_ret ?_
          refine post_block_ret ?_
          refine post_then_ret ?_
          refine post_rets (rs := [.tmp 2]) rfl (resC (resIs_tmp rfl) (resN)) (congrArg (vI) (?_ : _ = limK k))
          unfold limK; split <;> (try split) <;> omega
        ·
          have e := of_decide_eq_false hc8
          refine doC_seq ?_
          refine doC_region ?_
          refine doL_v (opV_eql rfl rfl) rfl rfl rfl ?_
          refine doL_v (opV_assign rfl) rfl rfl rfl ?_
          refine doL_nil ?_
          refine post_then ?_
          refine doC_cond rfl (fun hc8_2 => ?_) (fun hc8_2 => ?_)
          ·
            have e := of_decide_eq_true hc8_2
            refine doC_skip ?_
            refine post_then ?_
            refine doC_cond_t rfl (hc8_2) ?_
            refine doC_seq ?_
            refine doC_region ?_
            refine doL_v (opV_assign rfl) rfl rfl rfl ?_
            refine doL_nil ?_
            refine post_then ?_
            refine doC_ret ?_
            refine post_block_ret ?_
            refine post_then_ret ?_
            refine post_rets (rs := [.tmp 2]) rfl (resC (resIs_tmp rfl) (resN)) (congrArg (vI) (?_ : _ = limK k))
            unfold limK; split <;> (try split) <;> omega
          ·
            have e := of_decide_eq_false hc8_2
            refine doC_region ?_
            refine doL_v (opV_eql rfl rfl) rfl rfl rfl ?_
            refine doL_v (opV_assign rfl) rfl rfl rfl ?_
            refine doL_nil ?_
            refine post_then ?_
            refine doC_cond rfl (fun hc8_3 => ?_) (fun hc8_3 => ?_)
            ·
              have e := of_decide_eq_true hc8_3
              refine doC_seq ?_
              refine doC_region ?_
              refine doL_v (opV_assign rfl) rfl rfl rfl ?_
              refine doL_nil ?_
              refine post_then ?_
              refine doC_ret ?_
              refine post_block_ret ?_
              refine post_then_ret ?_
              refine post_rets (rs := [.tmp 2]) rfl (resC (resIs_tmp rfl) (resN)) (congrArg (vI) (?_ : _ = limK k))
              unfold limK; split <;> (try split) <;> omega
            ·
              have e := of_decide_eq_false hc8_3
              refine doC_skip ?_
              refine post_block_normal ?_
              refine post_then ?_
              refine doC_seq ?_
              refine doC_region ?_
              refine doL_v (opV_assign rfl) rfl rfl rfl ?_
              refine doL_nil ?_
              refine post_then ?_
              refine doC_ret ?_
              refine post_rets (rs := [.tmp 2]) rfl (resC (resIs_tmp rfl) (resN)) (congrArg (vI) (?_ : _ = limK k))
              unfold limK; split <;> (try split) <;> omega
theorem ix3_0 {p0 p1 p2 : Int} : ∀ w : World, (Instr.index 50 (.agg #[.int .i64 p0, .int .i64 p1, .int .i64 p2]) (.int .i64 0)).run Tryz.prog w = .ok (.int .i64 p0) w := fun w => by kernel_rfl
theorem ix3_1 {p0 p1 p2 : Int} : ∀ w : World, (Instr.index 50 (.agg #[.int .i64 p0, .int .i64 p1, .int .i64 p2]) (.int .i64 1)).run Tryz.prog w = .ok (.int .i64 p1) w := fun w => by kernel_rfl
theorem ix3_2 {p0 p1 p2 : Int} : ∀ w : World, (Instr.index 50 (.agg #[.int .i64 p0, .int .i64 p1, .int .i64 p2]) (.int .i64 2)).run Tryz.prog w = .ok (.int .i64 p2) w := fun w => by kernel_rfl
theorem cBeyond (p0 p1 p2 : Int) (h0 : -4194304 ≤ p0 ∧ p0 ≤ 4194304) (h1 : -4194304 ≤ p1 ∧ p1 ≤ 4194304) (h2 : -4194304 ≤ p2 ∧ p2 ≤ 4194304) (w : World) : Calls Tryz.prog 101 [.agg #[.int .i64 p0, .int .i64 p1, .int .i64 p2]].toArray w (Rets (vB (false)) (w)) := by
  refine calls_of_doC (n := 16) Tryz.func101 rfl rfl rfl ?_
  refine doC_seq ?_
  refine doC_region ?_
  refine doL_box 1 rfl rfl rfl rfl ?_; intro b1
  refine doL_v (opV_assign rfl) rfl rfl rfl ?_
  refine doL_nil ?_
  refine post_then ?_
  refine doC_seq ?_
  refine doC_seq ?_
  refine doC_region ?_
  refine doL_v (opV_loadA 1 ty50 rfl rfl rfl) rfl rfl rfl ?_
  refine doL_v (opV_move rfl) rfl rfl rfl ?_
  refine doL_nil ?_
  refine post_then ?_
  refine doC_block ?_
  refine doC_rounds 4 ?_
  refine doR_succ ?_
  refine doC_seq ?_
  refine doC_region ?_
  refine doL_v (opV_lss rfl rfl) rfl rfl rfl ?_
  refine doL_nil ?_
  refine post_then ?_
  refine doC_seq ?_
  refine doC_cond_t rfl (by decide) ?_
  refine doC_skip ?_
  refine post_then ?_
  refine doC_seq ?_
  refine doC_block ?_
  refine doC_seq ?_
  refine doC_region ?_
  refine doL_v (opV_index rfl rfl (ix3_0)) rfl rfl rfl ?_
  refine doL_v (opV_assign rfl) rfl rfl rfl ?_
  refine doL_nil ?_
  refine post_then ?_
  refine doC_seq ?_
  refine doC_region ?_
  refine doL_v (opV_move rfl) rfl rfl rfl ?_
  refine doL_v (opV_lss rfl rfl) rfl rfl rfl ?_
  refine doL_v (opV_move rfl) rfl rfl rfl ?_
  refine doL_false 11 rfl (by rw [decide_eq_false_iff_not]; omega) ?_
  refine doL_v (opV_move rfl) rfl rfl rfl ?_
  refine doL_v (opV_gtr rfl rfl) rfl rfl rfl ?_
  refine doL_v (opV_pick_f rfl rfl rfl rfl) rfl rfl rfl ?_
  refine doL_nil ?_
  refine post_then ?_
  refine doC_cond_f rfl (by rw [decide_eq_false_iff_not]; omega) ?_
  refine doC_skip ?_
  refine post_block_normal ?_
  refine post_then ?_
  refine doC_region ?_
  refine doL_v (opV_add rfl rfl (by first | exact i64_in ⟨by omega, by omega⟩ | rfl)) rfl rfl rfl ?_
  refine doL_v (opV_move rfl) rfl rfl rfl ?_
  refine doL_nil ?_
  refine post_rounds ?_
  refine doR_succ ?_
  refine doC_seq ?_
  refine doC_region ?_
  refine doL_v (opV_lss rfl rfl) rfl rfl rfl ?_
  refine doL_nil ?_
  refine post_then ?_
  refine doC_seq ?_
  refine doC_cond_t rfl (by decide) ?_
  refine doC_skip ?_
  refine post_then ?_
  refine doC_seq ?_
  refine doC_block ?_
  refine doC_seq ?_
  refine doC_region ?_
  refine doL_v (opV_index rfl rfl (ix3_1)) rfl rfl rfl ?_
  refine doL_v (opV_assign rfl) rfl rfl rfl ?_
  refine doL_nil ?_
  refine post_then ?_
  refine doC_seq ?_
  refine doC_region ?_
  refine doL_v (opV_move rfl) rfl rfl rfl ?_
  refine doL_v (opV_lss rfl rfl) rfl rfl rfl ?_
  refine doL_v (opV_move rfl) rfl rfl rfl ?_
  refine doL_false 11 rfl (by rw [decide_eq_false_iff_not]; omega) ?_
  refine doL_v (opV_move rfl) rfl rfl rfl ?_
  refine doL_v (opV_gtr rfl rfl) rfl rfl rfl ?_
  refine doL_v (opV_pick_f rfl rfl rfl rfl) rfl rfl rfl ?_
  refine doL_nil ?_
  refine post_then ?_
  refine doC_cond_f rfl (by rw [decide_eq_false_iff_not]; omega) ?_
  refine doC_skip ?_
  refine post_block_normal ?_
  refine post_then ?_
  refine doC_region ?_
  refine doL_v (opV_add rfl rfl (by first | exact i64_in ⟨by omega, by omega⟩ | rfl)) rfl rfl rfl ?_
  refine doL_v (opV_move rfl) rfl rfl rfl ?_
  refine doL_nil ?_
  refine post_rounds ?_
  refine doR_succ ?_
  refine doC_seq ?_
  refine doC_region ?_
  refine doL_v (opV_lss rfl rfl) rfl rfl rfl ?_
  refine doL_nil ?_
  refine post_then ?_
  refine doC_seq ?_
  refine doC_cond_t rfl (by decide) ?_
  refine doC_skip ?_
  refine post_then ?_
  refine doC_seq ?_
  refine doC_block ?_
  refine doC_seq ?_
  refine doC_region ?_
  refine doL_v (opV_index rfl rfl (ix3_2)) rfl rfl rfl ?_
  refine doL_v (opV_assign rfl) rfl rfl rfl ?_
  refine doL_nil ?_
  refine post_then ?_
  refine doC_seq ?_
  refine doC_region ?_
  refine doL_v (opV_move rfl) rfl rfl rfl ?_
  refine doL_v (opV_lss rfl rfl) rfl rfl rfl ?_
  refine doL_v (opV_move rfl) rfl rfl rfl ?_
  refine doL_false 11 rfl (by rw [decide_eq_false_iff_not]; omega) ?_
  refine doL_v (opV_move rfl) rfl rfl rfl ?_
  refine doL_v (opV_gtr rfl rfl) rfl rfl rfl ?_
  refine doL_v (opV_pick_f rfl rfl rfl rfl) rfl rfl rfl ?_
  refine doL_nil ?_
  refine post_then ?_
  refine doC_cond_f rfl (by rw [decide_eq_false_iff_not]; omega) ?_
  refine doC_skip ?_
  refine post_block_normal ?_
  refine post_then ?_
  refine doC_region ?_
  refine doL_v (opV_add rfl rfl (by first | exact i64_in ⟨by omega, by omega⟩ | rfl)) rfl rfl rfl ?_
  refine doL_v (opV_move rfl) rfl rfl rfl ?_
  refine doL_nil ?_
  refine post_rounds ?_
  refine doR_succ ?_
  refine doC_seq ?_
  refine doC_region ?_
  refine doL_v (opV_lss rfl rfl) rfl rfl rfl ?_
  refine doL_nil ?_
  refine post_then ?_
  refine doC_seq ?_
  refine doC_cond_f rfl (by decide) ?_
  refine doC_exit ?_
  refine post_then_exit ?_
  refine post_then_exit ?_
  refine post_block_exit ?_
  refine post_then ?_
  refine doC_seq ?_
  refine doC_region ?_
  refine doL_v (opV_assign rfl) rfl rfl rfl ?_
  refine doL_nil ?_
  refine post_then ?_
  refine doC_ret ?_
  refine post_rets (rs := [.tmp 2]) rfl (resC (resIs_tmp rfl) (resN)) (congrArg (vB) (?_ : _ = false))
  rfl
end Go.Proofs.YtonampcmhhhffaaGreat
namespace Go.Proofs.YtonampcmhhhffaaGreat
open Go.Sx
theorem en80 : Enters Tryz.prog 80 := enters_of Tryz.func80 (by kernel_rfl) (by kernel_rfl)
theorem en49 : Enters Tryz.prog 49 := enters_of Tryz.func49 (by kernel_rfl) (by kernel_rfl)
theorem isBox1 (a0 a1 : Int) (w : World) : Calls Tryz.prog 50 [.agg #[.int .i64 a0, .int .i64 a1]].toArray w (Rets (vB ((!(Iv.valid (⟨a0, a1⟩ : Iv))))) (w)) := by
  refine calls_of_doC (n := 6) Tryz.func50 rfl rfl rfl ?_
  refine doC_seq ?_
  refine doC_region ?_
  refine doL_box 1 rfl rfl rfl rfl ?_; intro b1
  refine doL_v (opV_assign rfl) rfl rfl rfl ?_
  refine doL_nil ?_
  refine post_then ?_
  refine doC_seq ?_
  refine doC_region ?_
  refine doL_v (opV_loadA 1 ty44 rfl rfl rfl) rfl rfl rfl ?_
  refine doL_vg (F := vB) (opV_call en51 rfl (fun w _ => iValid _ _  w)) rfl rfl rfl ?_; intro r4 hr4
  refine doL_v (opV_not rfl) rfl rfl rfl ?_
  refine doL_v (opV_assign rfl) rfl rfl rfl ?_
  refine doL_nil ?_
  refine post_then ?_
  refine doC_ret ?_
  refine post_rets (rs := [.tmp 2]) rfl (resC (resIs_tmp rfl) (resN)) (congrArg (vB) (?_ : _ = (!(Iv.valid (⟨a0, a1⟩ : Iv)))))
  subst_vars; rfl
theorem en_ib : Enters Tryz.prog 50 := enters_of Tryz.func50 (by kernel_rfl) (by kernel_rfl)
theorem ixIv  (ab : Option Addr) (cb n : Nat) (bx : List Iv) (hn : n ≤ 1000) (hbn : bx.length = n) (hv : ∀ a ∈ bx, Iv.valid a = true) (w : World) (hT : SlcIs 2 ab (bx.map ivc) w) : Calls Tryz.prog 80 [.slice ab n cb, .func (.func 50) #[] #[]].toArray w (Rets (vI (-1)) (w)) := by
  refine calls_of_doC (n := 19) Tryz.func80 rfl rfl rfl ?_
  refine doC_seq ?_
  refine doC_region ?_
  refine doL_v (opV_assign rfl) rfl rfl rfl ?_
  refine doL_nil ?_
  refine post_then ?_
  refine doC_seq ?_
  refine doC_seq ?_
  refine doC_region ?_
  refine doL_v (opV_move rfl) rfl rfl rfl ?_
  refine doL_v (opV_len_slice sl34 rfl) rfl rfl rfl ?_
  refine doL_v (opV_move rfl) rfl rfl rfl ?_
  refine doL_nil ?_
  refine post_then ?_
  refine doC_block ?_
  refine doC_loopK [0, 1, 7] [] (α := Nat) (fun x => n - x) (fun x => x ≤ n) (fun _ => ⟨w, []⟩) (fun x => [(8, .int .i64 (x : Int))]) (fun _ => []) 0 rfl rfl ?_ ?_ ?_ ?_ rfl ?_
  ·
    exact Nat.zero_le _
  ·
    exact rfl
  ·
    repeat' first | exact trivial | exact True.intro | refine ⟨rfl, ?_⟩
  ·
    repeat' first | exact trivial | exact True.intro | refine ⟨rfl, ?_⟩
  rintro k hk
  try dsimp only at hk ⊢
  refine doC_seq ?_
  refine doC_region ?_
  refine doL_v (opV_lss rfl rfl) rfl rfl rfl ?_
  refine doL_nil ?_
  refine post_then ?_
  refine doC_seq ?_
  refine doC_cond rfl (fun hc9 => ?_) (fun hc9 => ?_)
  ·
    have h2 : k < n := by have := of_decide_eq_true hc9; omega
    obtain ⟨a, hak⟩ : ∃ a, bx[k]? = some a := ⟨_, List.getElem?_eq_getElem (by omega)⟩
    have ha : (bx.map ivc)[k]? = some (ivc a) := by rw [List.getElem?_map, hak]; rfl
    have hva := hv a (List.mem_of_getElem? hak)
    refine doC_skip ?_
    refine post_then ?_
    refine doC_seq ?_
    refine doC_block ?_
    refine doC_seq ?_
    refine doC_region ?_
    refine doL_v (opV_move rfl) rfl rfl rfl ?_
    refine doL_v (opV_assign rfl) rfl rfl rfl ?_
    refine doL_nil ?_
    refine post_then ?_
    refine doC_seq ?_
    refine doC_region ?_
    refine doL_v (opV_move rfl) rfl rfl rfl ?_
    refine doL_v (opV_move rfl) rfl rfl rfl ?_
    refine doL_v (opV_move rfl) rfl rfl rfl ?_
    refine doL_v (opV_indexS (e := 44) (holds_base hT) (by kernel_rfl) rfl rfl rfl ha h2) rfl rfl rfl ?_
    refine doL_v (opV_loadSA (vs := [.int .i64 a.lo, .int .i64 a.hi]) k 0 (holds_base hT) ha ty44 rfl rfl) rfl rfl rfl ?_
    refine doL_vg (F := vB) (opV_callV en_ib rfl rfl rfl (fun w _ => isBox1 _ _ w)) rfl rfl rfl ?_; intro r16 hr16
    refine doL_nil ?_
    refine post_then ?_
    refine doC_cond_f rfl (by rw [hr16]; exact congrArg not hva) ?_
    refine doC_skip ?_
    refine post_block_normal ?_
    refine post_then ?_
    refine doC_region ?_
    refine doL_v (opV_add rfl rfl (inc_nat (by omega))) rfl rfl rfl ?_
    refine doL_v (opV_move rfl) rfl rfl rfl ?_
    refine doL_nil ?_
    refine post_again (k + 1) (by show k + 1 ≤ n; omega) (by show n - (k + 1) < n - k; omega) rfl ?_ ?_ rfl
    repeat' first | exact trivial | exact True.intro | refine ⟨rfl, ?_⟩
  ·
    refine doC_exit ?_
    refine post_then_exit ?_
    refine post_then_exit ?_
    refine post_block_exit ?_
    refine post_then ?_
    refine doC_seq ?_
    refine doC_region ?_
    refine doL_v (opV_assign rfl) rfl rfl rfl ?_
    refine doL_nil ?_
    refine post_then ?_
    refine doC_ret ?_
    refine post_rets (rs := [.tmp 4]) rfl (resC (resIs_tmp rfl) (resN)) (congrArg (vI) (?_ : _ = -1))
    rfl
theorem hasIv  (ab : Option Addr) (cb n : Nat) (bx : List Iv) (hn : n ≤ 1000) (hbn : bx.length = n) (hv : ∀ a ∈ bx, Iv.valid a = true) (w : World) (hT : SlcIs 2 ab (bx.map ivc) w) : Calls Tryz.prog 49 [.slice ab n cb, .func (.func 50) #[] #[]].toArray w (Rets (vB (false)) (w)) := by
  refine calls_of_doC (n := 9) Tryz.func49 rfl rfl rfl ?_
  refine doC_seq ?_
  refine doC_region ?_
  refine doL_v (opV_assign rfl) rfl rfl rfl ?_
  refine doL_nil ?_
  refine post_then ?_
  refine doC_seq ?_
  refine doC_region ?_
  refine doL_v (opV_move rfl) rfl rfl rfl ?_
  refine doL_v (opV_move rfl) rfl rfl rfl ?_
  refine doL_vg (F := vI) (opV_call en80 rfl (fun w' k => ixIv ab cb n bx hn hbn hv w' (slc_grow hT k.grow))) rfl rfl rfl ?_; intro r7 hr7
  refine doL_v (opV_geq rfl rfl) rfl rfl rfl ?_
  refine doL_v (opV_assign rfl) rfl rfl rfl ?_
  refine doL_nil ?_
  refine post_then ?_
  refine doC_ret ?_
  refine post_rets (rs := [.tmp 4]) rfl (resC (resIs_tmp rfl) (resN)) (congrArg (vB) (?_ : _ = false))
  rw [hr7]; rfl
theorem kIsBox  (aj am ab : Option Addr) (cj nm cm cb n : Nat) (bx : List Iv) (hn : n ≤ 1000) (hbn : bx.length = n) (hv : ∀ a ∈ bx, Iv.valid a = true) (w : World) (hT : SlcIs 2 ab (bx.map ivc) w) : Calls Tryz.prog 27 [.agg #[.slice aj n cj, .slice am nm cm], .slice ab n cb].toArray w (Rets (vB (true)) (w)) := by
  refine calls_of_doC (n := 16) Tryz.func27 rfl rfl rfl ?_
  refine doC_seq ?_
  refine doC_region ?_
  refine doL_box 2 rfl rfl rfl rfl ?_; intro b2
  refine doL_v (opV_assign rfl) rfl rfl rfl ?_
  refine doL_nil ?_
  refine post_then ?_
  refine doC_seq ?_
  refine doC_region ?_
  refine doL_v (opV_move rfl) rfl rfl rfl ?_
  refine doL_v (opV_len_slice sl34 rfl) rfl rfl rfl ?_
  refine doL_v (opV_fieldAddr fa26_0 rfl) rfl rfl rfl ?_
  refine doL_v (opV_load1 2 ty23 rfl rfl rfl) rfl rfl rfl ?_
  refine doL_v (opV_len_slice sl23 rfl) rfl rfl rfl ?_
  refine doL_v (opV_eql rfl rfl) rfl rfl rfl ?_
  refine doL_v (opV_move rfl) rfl rfl rfl ?_
  refine doL_true 11 rfl (decide_eq_true rfl) ?_
  refine doL_v (opV_move rfl) rfl rfl rfl ?_
  refine doL_vg (F := vB) (opV_call en49 rfl (fun w' k => hasIv ab cb n bx hn hbn hv w' (slc_grow hT k.grow))) rfl rfl rfl ?_; intro r13 hr13
  refine doL_v (opV_not rfl) rfl rfl rfl ?_
  refine doL_v (opV_pick_t rfl rfl rfl rfl) rfl rfl rfl ?_
  refine doL_v (opV_assign rfl) rfl rfl rfl ?_
  refine doL_nil ?_
  refine post_then ?_
  refine doC_ret ?_
  refine post_rets (rs := [.tmp 4]) rfl (resC (resIs_tmp rfl) (resN)) (congrArg (vB) (?_ : _ = true))
  rw [hr13]; rfl
end Go.Proofs.YtonampcmhhhffaaGreat
namespace Go.Proofs.YtonampcmhhhffaaGreat
open Go.Sx
theorem fa84_0 : fieldB Tryz.prog 84 0 0 = true := by kernel_rfl
theorem ty9 : tyB Tryz.prog 9 false 1 = true := by kernel_rfl
theorem cFind  (aj am : Option Addr) (cj nm cm n i : Nat) (js : List J) (s : ByteArray) (hn : n ≤ 1000) (hjn : js.length = n) (hin : i < n) (hne : ∀ (k : Nat), k < i → ∀ (j : J), js[k]? = some j → (j.name.toList == s.toList) = false) (hi : ∃ j, js[i]? = some j ∧ (j.name.toList == s.toList) = true) (w : World) (hS : SlcIs 12 aj (js.map jc) w) : Calls Tryz.prog 100 [.agg #[.slice aj n cj, .slice am nm cm], .string s].toArray w (Rets (vI ((i : Int))) (w)) := by
  refine calls_of_doC (n := 22) Tryz.func100 rfl rfl rfl ?_
  refine doC_seq ?_
  refine doC_region ?_
  refine doL_box 2 rfl rfl rfl rfl ?_; intro b2
  refine doL_v (opV_assign rfl) rfl rfl rfl ?_
  refine doL_nil ?_
  refine post_then ?_
  refine doC_seq ?_
  refine doC_seq ?_
  refine doC_region ?_
  refine doL_v (opV_fieldAddr fa26_0 rfl) rfl rfl rfl ?_
  refine doL_v (opV_load1 2 ty23 rfl rfl rfl) rfl rfl rfl ?_
  refine doL_v (opV_len_slice sl23 rfl) rfl rfl rfl ?_
  refine doL_v (opV_move rfl) rfl rfl rfl ?_
  refine doL_nil ?_
  refine post_then ?_
  refine doC_block ?_
  refine doC_loopK [1, 2, 8] [2] (α := Nat) (fun x => n - x) (fun x => x ≤ i) (fun _ => ⟨w, []⟩) (fun x => [(9, .int .i64 (x : Int))]) (fun _ => []) 0 rfl rfl ?_ ?_ ?_ ?_ rfl ?_
  ·
    exact Nat.zero_le _
  ·
    exact rfl
  ·
    repeat' first | exact trivial | exact True.intro | refine ⟨rfl, ?_⟩
  ·
    repeat' first | exact trivial | exact True.intro | refine ⟨rfl, ?_⟩
  rintro k hk
  try dsimp only at hk ⊢
  have h2 : k < n := by omega
  obtain ⟨j, hjk⟩ : ∃ j, js[k]? = some j := ⟨_, List.getElem?_eq_getElem (by omega)⟩
  have hj : (js.map jc)[k]? = some (jc j) := by rw [List.getElem?_map, hjk]; rfl
  refine doC_seq ?_
  refine doC_region ?_
  refine doL_v (opV_lss rfl rfl) rfl rfl rfl ?_
  refine doL_nil ?_
  refine post_then ?_
  refine doC_seq ?_
  refine doC_cond_t rfl (decide_eq_true (by omega)) ?_
  refine doC_skip ?_
  refine post_then ?_
  refine doC_seq ?_
  refine doC_block ?_
  refine doC_seq ?_
  refine doC_region ?_
  refine doL_v (opV_move rfl) rfl rfl rfl ?_
  refine doL_v (opV_assign rfl) rfl rfl rfl ?_
  refine doL_nil ?_
  refine post_then ?_
  refine doC_seq ?_
  refine doC_region ?_
  refine doL_v (opV_fieldAddr fa26_0 rfl) rfl rfl rfl ?_
  refine doL_v (opV_load1 2 ty23 rfl rfl rfl) rfl rfl rfl ?_
  refine doL_v (opV_move rfl) rfl rfl rfl ?_
  refine doL_v (opV_indexS (e := 84) (holds_base hS) (by kernel_rfl) rfl rfl rfl hj h2) rfl rfl rfl ?_
  refine doL_v (opV_fieldS (holds_base hS) hj fa84_0 rfl) rfl rfl rfl ?_
  refine doL_v (opV_loadS1 k 0 (holds_base hS) hj ty9 rfl rfl) rfl rfl rfl ?_
  refine doL_v (opV_move rfl) rfl rfl rfl ?_
  refine doL_v (opV_eqlS Tryz.underlying9 rfl rfl) rfl rfl rfl ?_
  refine doL_nil ?_
  refine post_then ?_
  refine doC_cond rfl (fun hc19 => ?_) (fun hc19 => ?_)
  ·
    have e : k = i := by
      rcases Nat.lt_or_ge k i with h | h
      · rw [hne k h j hjk] at hc19; cases hc19
      · omega
    refine doC_seq ?_
    refine doC_region ?_
    refine doL_v (opV_move rfl) rfl rfl rfl ?_
    refine doL_v (opV_assign rfl) rfl rfl rfl ?_
    refine doL_nil ?_
    refine post_then ?_
    refine doC_ret ?_
    refine post_block_ret ?_
    refine post_then_ret ?_
    refine post_then_ret ?_
    refine post_block_ret ?_
    refine post_then_ret ?_
    refine post_rets (rs := [.tmp 4]) rfl (resC (resIs_tmp rfl) (resN)) (congrArg (vI) (?_ : _ = (i : Int)))
    rw [e]
  ·
    have e : k ≠ i := fun e => by
      subst e
      obtain ⟨j2, h3, h4⟩ := hi
      rw [hjk] at h3; cases h3
      rw [h4] at hc19; cases hc19
    refine doC_skip ?_
    refine post_block_normal ?_
    refine post_then ?_
    refine doC_region ?_
    refine doL_v (opV_add rfl rfl (inc_nat (by omega))) rfl rfl rfl ?_
    refine doL_v (opV_move rfl) rfl rfl rfl ?_
    refine doL_nil ?_
    refine post_again (k + 1) (by show k + 1 ≤ i; omega) (by show n - (k + 1) < n - k; omega) rfl ?_ ?_ rfl
    repeat' first | exact trivial | exact True.intro | refine ⟨rfl, ?_⟩
end Go.Proofs.YtonampcmhhhffaaGreat
namespace Go.Proofs.YtonampcmhhhffaaGreat
open Go.Sx
theorem en116 : Enters Tryz.prog 116 := enters_of Tryz.func116 (by kernel_rfl) (by kernel_rfl)
theorem tLetter  (c : Int) (hc : 97 ≤ c ∧ c ≤ 122) (w : World) : Calls Tryz.prog 116 [.int .i32 c].toArray w (Rets (vB (true)) (w)) := by
  refine calls_of_doC (n := 9) Tryz.func116 rfl rfl rfl ?_
  refine doC_seq ?_
  refine doC_region ?_
  refine doL_v (opV_assign rfl) rfl rfl rfl ?_
  refine doL_nil ?_
  refine post_then ?_
  refine doC_seq ?_
  refine doC_region ?_
  refine doL_v (opV_move rfl) rfl rfl rfl ?_
  refine doL_v (opV_leq rfl rfl) rfl rfl rfl ?_
  refine doL_v (opV_move rfl) rfl rfl rfl ?_
  refine doL_true 5 rfl (decide_eq_true (by omega)) ?_
  refine doL_v (opV_move rfl) rfl rfl rfl ?_
  refine doL_v (opV_leq rfl rfl) rfl rfl rfl ?_
  refine doL_v (opV_pick_t rfl rfl rfl rfl) rfl rfl rfl ?_
  refine doL_v (opV_assign rfl) rfl rfl rfl ?_
  refine doL_nil ?_
  refine post_then ?_
  refine doC_ret ?_
  refine post_rets (rs := [.tmp 2]) rfl (resC (resIs_tmp rfl) (resN)) (congrArg (vB) (?_ : _ = true))
  exact decide_eq_true hc.2
theorem tName  (s : ByteArray) (c : Nat) (hsz : s.size = 1) (hd : Utf8.decode s 0 = (c, 1)) (hc : 97 ≤ c ∧ c ≤ 122) (hw : (s.toList == (ByteArray.mk #[119, 111, 114, 108, 100]).toList) = false) (w : World) : Calls Tryz.prog 99 [.string s].toArray w (Rets (vB (true)) (w)) := by
  refine calls_of_doC (n := 39) Tryz.func99 rfl rfl rfl ?_
  refine doC_seq ?_
  refine doC_region ?_
  refine doL_v (opV_assign rfl) rfl rfl rfl ?_
  refine doL_nil ?_
  refine post_then ?_
  refine doC_seq ?_
  refine doC_seq ?_
  refine doC_region ?_
  refine doL_v (opV_move rfl) rfl rfl rfl ?_
  refine doL_v (opV_lenStr Tryz.underlying9 rfl) rfl rfl rfl ?_
  refine doL_v (opV_eql rfl rfl) rfl rfl rfl ?_
  refine doL_v (opV_move rfl) rfl rfl rfl ?_
  refine doL_false 8 rfl (by rw [decide_eq_false_iff_not]; omega) ?_
  refine doL_v (opV_move rfl) rfl rfl rfl ?_
  refine doL_v (opV_lenStr Tryz.underlying9 rfl) rfl rfl rfl ?_
  refine doL_v (opV_gtr rfl rfl) rfl rfl rfl ?_
  refine doL_v (opV_pick_f rfl rfl rfl rfl) rfl rfl rfl ?_
  refine doL_v (opV_move rfl) rfl rfl rfl ?_
  refine doL_false 13 rfl (by rw [decide_eq_false_iff_not]; omega) ?_
  refine doL_v (opV_move rfl) rfl rfl rfl ?_
  refine doL_v (opV_eqlS Tryz.underlying9 rfl rfl) rfl rfl rfl ?_
  refine doL_v (opV_pick_f rfl rfl rfl rfl) rfl rfl rfl ?_
  refine doL_nil ?_
  refine post_then ?_
  refine doC_cond_f rfl (hw) ?_
  refine doC_skip ?_
  refine post_then ?_
  refine doC_seq ?_
  refine doC_seq ?_
  refine doC_region ?_
  refine doL_v (opV_move rfl) rfl rfl rfl ?_
  refine doL_range 18 Tryz.underlying9 rfl rfl rfl ?_; intro b18
  refine doL_nil ?_
  refine post_then ?_
  refine doC_block ?_
  refine doC_rounds 2 ?_
  refine doR_succ ?_
  refine doC_seq ?_
  refine doC_region ?_
  refine doL_nextS 18 rfl rfl (by omega) hd rfl rfl ?_ rfl; intro R19 hR19
  obtain rfl := Option.some.inj hR19
  refine doL_v (opV_extract rfl rfl) rfl rfl rfl ?_
  refine doL_nil ?_
  refine post_then ?_
  refine doC_seq ?_
  refine doC_cond_t rfl (rfl) ?_
  refine doC_skip ?_
  refine post_then ?_
  refine doC_block ?_
  refine doC_seq ?_
  refine doC_region ?_
  refine doL_v (opV_extract rfl rfl) rfl rfl rfl ?_
  refine doL_v (opV_extract rfl rfl) rfl rfl rfl ?_
  refine doL_v (opV_assign rfl) rfl rfl rfl ?_
  refine doL_v (opV_assign rfl) rfl rfl rfl ?_
  refine doL_nil ?_
  refine post_then ?_
  refine doC_seq ?_
  refine doC_region ?_
  refine doL_v (opV_move rfl) rfl rfl rfl ?_
  refine doL_vg (F := vB) (opV_call en116 rfl (fun w _ => tLetter _ (by omega) w)) rfl rfl rfl ?_; intro r24 hr24
  refine doL_v (opV_not rfl) rfl rfl rfl ?_
  refine doL_v (opV_move rfl) rfl rfl rfl ?_
  refine doL_false 26 rfl (by rw [hr24]; rfl) ?_
  refine doL_skip rfl rfl rfl ?_
  refine doL_skip rfl rfl rfl ?_
  refine doL_skip rfl rfl rfl ?_
  refine doL_dead rfl rfl rfl ?_
  refine doL_dead rfl rfl rfl ?_
  refine doL_dead rfl rfl rfl ?_
  refine doL_dead rfl rfl rfl ?_
  refine doL_dead rfl rfl rfl ?_
  refine doL_dead rfl rfl rfl ?_
  refine doL_dead rfl rfl rfl ?_
  refine doL_skip rfl rfl rfl ?_
  refine doL_v (opV_pick_f rfl rfl rfl rfl) rfl rfl rfl ?_
  refine doL_nil ?_
  refine post_then ?_
  refine doC_cond_f rfl (rfl) ?_
  refine doC_skip ?_
  refine post_block_normal ?_
  refine post_rounds ?_
  refine doR_succ ?_
  refine doC_seq ?_
  refine doC_region ?_
  refine doL_v (opV_nextE 18 rfl rfl (by omega)) rfl rfl rfl ?_
  refine doL_v (opV_extract rfl rfl) rfl rfl rfl ?_
  refine doL_nil ?_
  refine post_then ?_
  refine doC_seq ?_
  refine doC_cond_f rfl (rfl) ?_
  refine doC_exit ?_
  refine post_then_exit ?_
  refine post_then_exit ?_
  refine post_block_exit ?_
  refine post_then ?_
  refine doC_seq ?_
  refine doC_region ?_
  refine doL_v (opV_assign rfl) rfl rfl rfl ?_
  refine doL_nil ?_
  refine post_then ?_
  refine doC_ret ?_
  refine post_rets (rs := [.tmp 2]) rfl (resC (resIs_tmp rfl) (resN)) (congrArg (vB) (?_ : _ = true))
  rfl
end Go.Proofs.YtonampcmhhhffaaGreat
namespace Go.Proofs.YtonampcmhhhffaaGreat
open Go.Sx
theorem en99 : Enters Tryz.prog 99 := enters_of Tryz.func99 (by kernel_rfl) (by kernel_rfl)
theorem en100 : Enters Tryz.prog 100 := enters_of Tryz.func100 (by kernel_rfl) (by kernel_rfl)
theorem en101 : Enters Tryz.prog 101 := enters_of Tryz.func101 (by kernel_rfl) (by kernel_rfl)
theorem en102 : Enters Tryz.prog 102 := enters_of Tryz.func102 (by kernel_rfl) (by kernel_rfl)
theorem fa84_6 : fieldB Tryz.prog 84 6 8 = true := by kernel_rfl
theorem en103 : Enters Tryz.prog 103 := enters_of Tryz.func103 (by kernel_rfl) (by kernel_rfl)
theorem fa84_7 : fieldB Tryz.prog 84 7 9 = true := by kernel_rfl
theorem fa84_8 : fieldB Tryz.prog 84 8 10 = true := by kernel_rfl
theorem fa84_9 : fieldB Tryz.prog 84 9 11 = true := by kernel_rfl
theorem limK_b (k : Int) : 0 ≤ limK k ∧ limK k ≤ 4194304 := by
  unfold limK; split <;> (try split) <;> omega
theorem cJoint  (aj am : Option Addr) (cj nm cm n i : Nat) (js : List J) (j : J) (c : Nat) (hn : n ≤ 1000) (hjn : js.length = n) (hin : i < n) (hjk : js[i]? = some j) (hne : ∀ (k : Nat), k < i → ∀ (j2 : J), js[k]? = some j2 → (j2.name.toList == j.name.toList) = false) (hsz : j.name.size = 1) (hd : Utf8.decode j.name 0 = (c, 1)) (hc : 97 ≤ c ∧ c ≤ 122) (hw : (j.name.toList == (ByteArray.mk #[119, 111, 114, 108, 100]).toList) = false) (hkd : 0 ≤ j.kind ∧ j.kind ≤ 6) (hpa : -1 ≤ j.parent ∧ j.parent < i) (h0 : -4194304 ≤ j.off.x ∧ j.off.x ≤ 4194304) (h1 : -4194304 ≤ j.off.y ∧ j.off.y ≤ 4194304) (h2 : -4194304 ≤ j.off.z ∧ j.off.z ≤ 4194304) (hlh : j.lo ≤ j.hi ∧ -limK j.kind ≤ j.lo ∧ j.hi ≤ limK j.kind) (hwe : 1 ≤ j.weight ∧ j.weight ≤ 1024) (hsp : 1 ≤ j.speed ∧ j.speed ≤ 1048576) (hac : 1 ≤ j.accel ∧ j.accel ≤ 1048576) (htq : 1 ≤ j.torque ∧ j.torque ≤ 1099511627776) (w : World) (hS : SlcIs 12 aj (js.map jc) w) : Calls Tryz.prog 75 [.agg #[.slice aj n cj, .slice am nm cm], .int .i64 (i : Int)].toArray w (Rets (vI ((0 : Int))) (w)) := by
  refine calls_of_doC (n := 91) Tryz.func75 rfl rfl rfl ?_
  refine doC_seq ?_
  refine doC_region ?_
  refine doL_box 2 rfl rfl rfl rfl ?_; intro b2
  refine doL_v (opV_assign rfl) rfl rfl rfl ?_
  refine doL_nil ?_
  refine post_then ?_
  refine doC_seq ?_
  have hj : (js.map jc)[i]? = some (jc j) := by rw [List.getElem?_map, hjk]; rfl
  have hL := limK_b j.kind
  refine doC_region ?_
  refine doL_v (opV_fieldAddr fa26_0 rfl) rfl rfl rfl ?_
  refine doL_v (opV_load1 2 ty23 rfl rfl rfl) rfl rfl rfl ?_
  refine doL_v (opV_move rfl) rfl rfl rfl ?_
  refine doL_v (opV_indexS (e := 84) (holds_base hS) (by kernel_rfl) rfl rfl rfl hj hin) rfl rfl rfl ?_
  refine doL_v (opV_loadSA (vs := [.string j.name, .int .i64 j.kind, .int .i64 j.parent, .int .i64 j.off.x, .int .i64 j.off.y, .int .i64 j.off.z, .int .i64 j.lo, .int .i64 j.hi, .int .i64 j.weight, .int .i64 j.speed, .int .i64 j.accel, .int .i64 j.torque]) i 0 (holds_base hS) hj ty84 rfl rfl) rfl rfl rfl ?_
  refine doL_alloc 5 ze84 rfl rfl rfl ?_; intro b5
  refine doL_store 5 ty84 rfl rfl rfl rfl rfl rfl rfl rfl ?_
  refine doL_nil ?_
  refine post_then ?_
  refine doC_seq ?_
  refine doC_block ?_
  refine doC_seq ?_
  refine doC_region ?_
  refine doL_v (opV_fieldAddr fa84_0 rfl) rfl rfl rfl ?_
  refine doL_v (opV_load1 5 ty9 rfl rfl rfl) rfl rfl rfl ?_
  refine doL_vg (F := vB) (opV_call en99 rfl (fun w _ => tName _ c hsz hd hc hw w)) rfl rfl rfl ?_; intro r15 hr15
  refine doL_v (opV_not rfl) rfl rfl rfl ?_
  refine doL_v (opV_move rfl) rfl rfl rfl ?_
  refine doL_false 17 rfl (by rw [hr15]; rfl) ?_
  refine doL_v (opV_loadA 2 ty26 rfl rfl rfl) rfl rfl rfl ?_
  refine doL_v (opV_fieldAddr fa84_0 rfl) rfl rfl rfl ?_
  refine doL_v (opV_load1 5 ty9 rfl rfl rfl) rfl rfl rfl ?_
  refine doL_vg (F := vI) (opV_call en100 rfl (fun w' k => cFind aj am cj nm cm n i js j.name hn hjn hin hne ⟨j, hjk, by simp⟩ w' (slc_grow hS k.grow))) rfl rfl rfl ?_; intro r21 hr21
  refine doL_v (opV_move rfl) rfl rfl rfl ?_
  refine doL_v (opV_neq rfl rfl) rfl rfl rfl ?_
  refine doL_v (opV_pick_f rfl rfl rfl rfl) rfl rfl rfl ?_
  refine doL_v (opV_assign rfl) rfl rfl rfl ?_
  refine doL_nil ?_
  refine post_then ?_
  refine doC_cond_f rfl (by rw [hr21]; simp) ?_
  refine doC_seq ?_
  refine doC_region ?_
  refine doL_v (opV_fieldAddr fa84_1 rfl) rfl rfl rfl ?_
  refine doL_v (opV_load1 5 ty3 rfl rfl rfl) rfl rfl rfl ?_
  refine doL_v (opV_lss rfl rfl) rfl rfl rfl ?_
  refine doL_v (opV_move rfl) rfl rfl rfl ?_
  refine doL_false 29 rfl (by rw [decide_eq_false_iff_not]; omega) ?_
  refine doL_v (opV_fieldAddr fa84_1 rfl) rfl rfl rfl ?_
  refine doL_v (opV_load1 5 ty3 rfl rfl rfl) rfl rfl rfl ?_
  refine doL_v (opV_gtr rfl rfl) rfl rfl rfl ?_
  refine doL_v (opV_pick_f rfl rfl rfl rfl) rfl rfl rfl ?_
  refine doL_v (opV_assign rfl) rfl rfl rfl ?_
  refine doL_nil ?_
  refine post_then ?_
  refine doC_cond_f rfl (by rw [decide_eq_false_iff_not]; omega) ?_
  refine doC_seq ?_
  refine doC_region ?_
  refine doL_v (opV_fieldAddr fa84_2 rfl) rfl rfl rfl ?_
  refine doL_v (opV_load1 5 ty3 rfl rfl rfl) rfl rfl rfl ?_
  refine doL_v (opV_lss rfl rfl) rfl rfl rfl ?_
  refine doL_v (opV_move rfl) rfl rfl rfl ?_
  refine doL_false 38 rfl (by rw [decide_eq_false_iff_not]; omega) ?_
  refine doL_v (opV_fieldAddr fa84_2 rfl) rfl rfl rfl ?_
  refine doL_v (opV_load1 5 ty3 rfl rfl rfl) rfl rfl rfl ?_
  refine doL_v (opV_move rfl) rfl rfl rfl ?_
  refine doL_v (opV_geq rfl rfl) rfl rfl rfl ?_
  refine doL_v (opV_pick_f rfl rfl rfl rfl) rfl rfl rfl ?_
  refine doL_v (opV_assign rfl) rfl rfl rfl ?_
  refine doL_nil ?_
  refine post_then ?_
  refine doC_cond_f rfl (by rw [decide_eq_false_iff_not]; omega) ?_
  refine doC_seq ?_
  refine doC_region ?_
  refine doL_v (opV_fieldAddr fa84_3 rfl) rfl rfl rfl ?_
  refine doL_v (opV_loadA 5 ty50 rfl rfl rfl) rfl rfl rfl ?_
  refine doL_vg (F := vB) (opV_call en101 rfl (fun w _ => cBeyond _ _ _ h0 h1 h2 w)) rfl rfl rfl ?_; intro r47 hr47
  refine doL_v (opV_assign rfl) rfl rfl rfl ?_
  refine doL_nil ?_
  refine post_then ?_
  refine doC_cond_f rfl (hr47) ?_
  refine doC_skip ?_
  refine post_block_normal ?_
  refine post_then ?_
  refine doC_seq ?_
  refine doC_region ?_
  refine doL_v (opV_fieldAddr fa84_1 rfl) rfl rfl rfl ?_
  refine doL_v (opV_load1 5 ty3 rfl rfl rfl) rfl rfl rfl ?_
  refine doL_vg (F := vI) (opV_call en102 rfl (fun w _ => cLimit _  w)) rfl rfl rfl ?_; intro r50 hr50
  subst hr50
  refine doL_v (opV_assign rfl) rfl rfl rfl ?_
  refine doL_nil ?_
  refine post_then ?_
  refine doC_seq ?_
  refine doC_seq ?_
  refine doC_region ?_
  refine doL_v (opV_fieldAddr fa84_4 rfl) rfl rfl rfl ?_
  refine doL_v (opV_load1 5 ty2 rfl rfl rfl) rfl rfl rfl ?_
  refine doL_v (opV_fieldAddr fa84_5 rfl) rfl rfl rfl ?_
  refine doL_v (opV_load1 5 ty2 rfl rfl rfl) rfl rfl rfl ?_
  refine doL_v (opV_gtr rfl rfl) rfl rfl rfl ?_
  refine doL_v (opV_move rfl) rfl rfl rfl ?_
  refine doL_false 56 rfl (by rw [decide_eq_false_iff_not]; omega) ?_
  refine doL_v (opV_fieldAddr fa84_4 rfl) rfl rfl rfl ?_
  refine doL_v (opV_load1 5 ty2 rfl rfl rfl) rfl rfl rfl ?_
  refine doL_v (opV_move rfl) rfl rfl rfl ?_
  refine doL_v (opV_neg rfl (by first | exact neg_in ⟨by omega, by omega⟩ | rfl)) rfl rfl rfl ?_
  refine doL_v (opV_lss rfl rfl) rfl rfl rfl ?_
  refine doL_v (opV_pick_f rfl rfl rfl rfl) rfl rfl rfl ?_
  refine doL_v (opV_move rfl) rfl rfl rfl ?_
  refine doL_false 63 rfl (by rw [decide_eq_false_iff_not]; omega) ?_
  refine doL_v (opV_fieldAddr fa84_5 rfl) rfl rfl rfl ?_
  refine doL_v (opV_load1 5 ty2 rfl rfl rfl) rfl rfl rfl ?_
  refine doL_v (opV_move rfl) rfl rfl rfl ?_
  refine doL_v (opV_gtr rfl rfl) rfl rfl rfl ?_
  refine doL_v (opV_pick_f rfl rfl rfl rfl) rfl rfl rfl ?_
  refine doL_nil ?_
  refine post_then ?_
  refine doC_cond_f rfl (by rw [decide_eq_false_iff_not]; omega) ?_
  refine doC_skip ?_
  refine post_then ?_
  refine doC_seq ?_
  refine doC_seq ?_
  refine doC_region ?_
  refine doL_v (opV_fieldAddr fa84_6 rfl) rfl rfl rfl ?_
  refine doL_v (opV_load1 5 ty2 rfl rfl rfl) rfl rfl rfl ?_
  refine doL_vg (F := vB) (opV_call en103 rfl (fun w _ => cFrom1 _ _  w)) rfl rfl rfl ?_; intro r71 hr71
  refine doL_v (opV_not rfl) rfl rfl rfl ?_
  refine doL_v (opV_move rfl) rfl rfl rfl ?_
  refine doL_false 73 rfl (by rw [hr71]; simp; omega) ?_
  refine doL_v (opV_fieldAddr fa84_7 rfl) rfl rfl rfl ?_
  refine doL_v (opV_load1 5 ty2 rfl rfl rfl) rfl rfl rfl ?_
  refine doL_vg (F := vB) (opV_call en103 rfl (fun w _ => cFrom1 _ _  w)) rfl rfl rfl ?_; intro r76 hr76
  refine doL_v (opV_not rfl) rfl rfl rfl ?_
  refine doL_v (opV_pick_f rfl rfl rfl rfl) rfl rfl rfl ?_
  refine doL_v (opV_move rfl) rfl rfl rfl ?_
  refine doL_false 79 rfl (by rw [hr76]; simp; omega) ?_
  refine doL_v (opV_fieldAddr fa84_8 rfl) rfl rfl rfl ?_
  refine doL_v (opV_load1 5 ty2 rfl rfl rfl) rfl rfl rfl ?_
  refine doL_vg (F := vB) (opV_call en103 rfl (fun w _ => cFrom1 _ _  w)) rfl rfl rfl ?_; intro r82 hr82
  refine doL_v (opV_not rfl) rfl rfl rfl ?_
  refine doL_v (opV_pick_f rfl rfl rfl rfl) rfl rfl rfl ?_
  refine doL_v (opV_move rfl) rfl rfl rfl ?_
  refine doL_false 85 rfl (by rw [hr82]; simp; omega) ?_
  refine doL_v (opV_fieldAddr fa84_9 rfl) rfl rfl rfl ?_
  refine doL_v (opV_load1 5 ty2 rfl rfl rfl) rfl rfl rfl ?_
  refine doL_vg (F := vB) (opV_call en103 rfl (fun w _ => cFrom1 _ _  w)) rfl rfl rfl ?_; intro r88 hr88
  refine doL_v (opV_not rfl) rfl rfl rfl ?_
  refine doL_v (opV_pick_f rfl rfl rfl rfl) rfl rfl rfl ?_
  refine doL_nil ?_
  refine post_then ?_
  refine doC_cond_f rfl (by rw [hr88]; simp; omega) ?_
  refine doC_skip ?_
  refine post_then ?_
  refine doC_seq ?_
  refine doC_region ?_
  refine doL_v (opV_assign rfl) rfl rfl rfl ?_
  refine doL_nil ?_
  refine post_then ?_
  refine doC_ret ?_
  refine post_rets (rs := [.tmp 4]) rfl (resC (resIs_tmp rfl) (resN)) (congrArg (vI) (?_ : _ = (0 : Int)))
  rfl
end Go.Proofs.YtonampcmhhhffaaGreat
namespace Go.Proofs.YtonampcmhhhffaaGreat
open Go.Sx
theorem fa101_0 : fieldB Tryz.prog 101 0 0 = true := by kernel_rfl
theorem fa101_1 : fieldB Tryz.prog 101 1 1 = true := by kernel_rfl
theorem fa101_2 : fieldB Tryz.prog 101 2 2 = true := by kernel_rfl
theorem ty101 : tyB Tryz.prog 101 true 5 = true := by kernel_rfl
theorem en78 : Enters Tryz.prog 78 := enters_of Tryz.func78 (by kernel_rfl) (by kernel_rfl)
theorem en104 : Enters Tryz.prog 104 := enters_of Tryz.func104 (by kernel_rfl) (by kernel_rfl)
theorem cMass  (aj am : Option Addr) (cj nm cm n : Nat) (lk ms px py pz : Int) (hlk : 0 ≤ lk ∧ lk < n) (hms : 1 ≤ ms ∧ ms ≤ 65536) (h0 : -4194304 ≤ px ∧ px ≤ 4194304) (h1 : -4194304 ≤ py ∧ py ≤ 4194304) (h2 : -4194304 ≤ pz ∧ pz ≤ 4194304) (w : World) : Calls Tryz.prog 78 [.agg #[.slice aj n cj, .slice am nm cm], .agg #[.int .i64 lk, .int .i64 ms, .int .i64 px, .int .i64 py, .int .i64 pz]].toArray w (Rets (vB (true)) (w)) := by
  refine calls_of_doC (n := 27) Tryz.func78 rfl rfl rfl ?_
  refine doC_seq ?_
  refine doC_region ?_
  refine doL_box 2 rfl rfl rfl rfl ?_; intro b2
  refine doL_box 3 rfl rfl rfl rfl ?_; intro b3
  refine doL_v (opV_assign rfl) rfl rfl rfl ?_
  refine doL_nil ?_
  refine post_then ?_
  refine doC_seq ?_
  refine doC_region ?_
  refine doL_v (opV_fieldAddr fa101_0 rfl) rfl rfl rfl ?_
  refine doL_v (opV_load1 3 ty3 rfl rfl rfl) rfl rfl rfl ?_
  refine doL_v (opV_leq rfl rfl) rfl rfl rfl ?_
  refine doL_v (opV_move rfl) rfl rfl rfl ?_
  refine doL_true 8 rfl (decide_eq_true (by omega)) ?_
  refine doL_v (opV_fieldAddr fa101_0 rfl) rfl rfl rfl ?_
  refine doL_v (opV_load1 3 ty3 rfl rfl rfl) rfl rfl rfl ?_
  refine doL_v (opV_fieldAddr fa26_0 rfl) rfl rfl rfl ?_
  refine doL_v (opV_load1 2 ty23 rfl rfl rfl) rfl rfl rfl ?_
  refine doL_v (opV_len_slice sl23 rfl) rfl rfl rfl ?_
  refine doL_v (opV_lss rfl rfl) rfl rfl rfl ?_
  refine doL_v (opV_pick_t rfl rfl rfl rfl) rfl rfl rfl ?_
  refine doL_v (opV_move rfl) rfl rfl rfl ?_
  refine doL_true 16 rfl (decide_eq_true (by omega)) ?_
  refine doL_v (opV_fieldAddr fa101_1 rfl) rfl rfl rfl ?_
  refine doL_v (opV_load1 3 ty2 rfl rfl rfl) rfl rfl rfl ?_
  refine doL_vg (F := vB) (opV_call en103 rfl (fun w _ => cFrom1 _ _  w)) rfl rfl rfl ?_; intro r19 hr19
  refine doL_v (opV_pick_t rfl rfl rfl rfl) rfl rfl rfl ?_
  refine doL_v (opV_move rfl) rfl rfl rfl ?_
  refine doL_true 21 rfl (by rw [hr19]; simp; omega) ?_
  refine doL_v (opV_fieldAddr fa101_2 rfl) rfl rfl rfl ?_
  refine doL_v (opV_loadA 3 ty50 rfl rfl rfl) rfl rfl rfl ?_
  refine doL_vg (F := vB) (opV_call en101 rfl (fun w _ => cBeyond _ _ _ h0 h1 h2 w)) rfl rfl rfl ?_; intro r24 hr24
  refine doL_v (opV_not rfl) rfl rfl rfl ?_
  refine doL_v (opV_pick_t rfl rfl rfl rfl) rfl rfl rfl ?_
  refine doL_v (opV_assign rfl) rfl rfl rfl ?_
  refine doL_nil ?_
  refine post_then ?_
  refine doC_ret ?_
  refine post_rets (rs := [.tmp 4]) rfl (resC (resIs_tmp rfl) (resN)) (congrArg (vB) (?_ : _ = true))
  rw [hr24]; rfl
theorem en_mq : Enters Tryz.prog 77 := enters_of Tryz.func77 (by kernel_rfl) (by kernel_rfl)
theorem cMass1  (aj am : Option Addr) (cj nm cm n b : Nat) (lk ms px py pz : Int) (hlk : 0 ≤ lk ∧ lk < n) (hms : 1 ≤ ms ∧ ms ≤ 65536) (h0 : -4194304 ≤ px ∧ px ≤ 4194304) (h1 : -4194304 ≤ py ∧ py ≤ 4194304) (h2 : -4194304 ≤ pz ∧ pz ≤ 4194304) (w : World) (hb : w.heap[b]? = some (.cells [.slice aj n cj, .slice am nm cm].toArray 26)) : Calls Tryz.prog 77 [.agg #[.int .i64 lk, .int .i64 ms, .int .i64 px, .int .i64 py, .int .i64 pz], .pointer (some ⟨b, 0, none⟩)].toArray w (Rets (vB (false)) (w)) := by
  refine calls_of_doC (n := 8) Tryz.func77 rfl rfl rfl ?_
  refine doC_seq ?_
  refine doC_region ?_
  refine doL_box 2 rfl rfl rfl rfl ?_; intro b2
  refine doL_v (opV_assign rfl) rfl rfl rfl ?_
  refine doL_nil ?_
  refine post_then ?_
  refine doC_seq ?_
  refine doC_region ?_
  refine doL_v (opV_loadA_blk hb ty26 rfl rfl) rfl rfl rfl ?_
  refine doL_v (opV_loadA 2 ty101 rfl rfl rfl) rfl rfl rfl ?_
  refine doL_vg (F := vB) (opV_call en78 rfl (fun w _ => cMass _ _ _ _ _ _ _ _ _ _ _ hlk hms h0 h1 h2 w)) rfl rfl rfl ?_; intro r6 hr6
  refine doL_v (opV_not rfl) rfl rfl rfl ?_
  refine doL_v (opV_assign rfl) rfl rfl rfl ?_
  refine doL_nil ?_
  refine post_then ?_
  refine doC_ret ?_
  refine post_rets (rs := [.tmp 3]) rfl (resC (resIs_tmp rfl) (resN)) (congrArg (vB) (?_ : _ = false))
  rw [hr6]; rfl
def MB (n : Nat) (m : Ms) : Prop := (0 ≤ m.link ∧ m.link < n) ∧ (1 ≤ m.mass ∧ m.mass ≤ 65536) ∧ (-4194304 ≤ m.p.x ∧ m.p.x ≤ 4194304) ∧ (-4194304 ≤ m.p.y ∧ m.p.y ≤ 4194304) ∧ (-4194304 ≤ m.p.z ∧ m.p.z ≤ 4194304)
theorem ixMs  (aj am : Option Addr) (cj nm cm n b : Nat) (l : List Ms) (hn : nm ≤ 1000) (hbn : l.length = nm) (hv : ∀ m ∈ l, MB n m) (w : World) (hT : SlcIs 5 am (l.map mc) w) (hb : w.heap[b]? = some (.cells [.slice aj n cj, .slice am nm cm].toArray 26)) : Calls Tryz.prog 104 [.slice am nm cm, .func (.func 77) #[] #[.pointer (some ⟨b, 0, none⟩)]].toArray w (Rets (vI (-1)) (w)) := by
  refine calls_of_doC (n := 19) Tryz.func104 rfl rfl rfl ?_
  refine doC_seq ?_
  refine doC_region ?_
  refine doL_v (opV_assign rfl) rfl rfl rfl ?_
  refine doL_nil ?_
  refine post_then ?_
  refine doC_seq ?_
  refine doC_seq ?_
  refine doC_region ?_
  refine doL_v (opV_move rfl) rfl rfl rfl ?_
  refine doL_v (opV_len_slice sl24 rfl) rfl rfl rfl ?_
  refine doL_v (opV_move rfl) rfl rfl rfl ?_
  refine doL_nil ?_
  refine post_then ?_
  refine doC_block ?_
  refine doC_loopK [0, 1, 7] [] (α := Nat) (fun x => nm - x) (fun x => x ≤ nm) (fun _ => ⟨w, []⟩) (fun x => [(8, .int .i64 (x : Int))]) (fun _ => []) 0 rfl rfl ?_ ?_ ?_ ?_ rfl ?_
  ·
    exact Nat.zero_le _
  ·
    exact rfl
  ·
    repeat' first | exact trivial | exact True.intro | refine ⟨rfl, ?_⟩
  ·
    repeat' first | exact trivial | exact True.intro | refine ⟨rfl, ?_⟩
  rintro k hk
  try dsimp only at hk ⊢
  refine doC_seq ?_
  refine doC_region ?_
  refine doL_v (opV_lss rfl rfl) rfl rfl rfl ?_
  refine doL_nil ?_
  refine post_then ?_
  refine doC_seq ?_
  refine doC_cond rfl (fun hc9 => ?_) (fun hc9 => ?_)
  ·
    have h2 : k < nm := by have := of_decide_eq_true hc9; omega
    obtain ⟨m, hak⟩ : ∃ m, l[k]? = some m := ⟨_, List.getElem?_eq_getElem (by omega)⟩
    have ha : (l.map mc)[k]? = some (mc m) := by rw [List.getElem?_map, hak]; rfl
    obtain ⟨m1, m2, m3, m4, m5⟩ := hv m (List.mem_of_getElem? hak)
    refine doC_skip ?_
    refine post_then ?_
    refine doC_seq ?_
    refine doC_block ?_
    refine doC_seq ?_
    refine doC_region ?_
    refine doL_v (opV_move rfl) rfl rfl rfl ?_
    refine doL_v (opV_assign rfl) rfl rfl rfl ?_
    refine doL_nil ?_
    refine post_then ?_
    refine doC_seq ?_
    refine doC_region ?_
    refine doL_v (opV_move rfl) rfl rfl rfl ?_
    refine doL_v (opV_move rfl) rfl rfl rfl ?_
    refine doL_v (opV_move rfl) rfl rfl rfl ?_
    refine doL_v (opV_indexS (e := 101) (holds_base hT) (by kernel_rfl) rfl rfl rfl ha h2) rfl rfl rfl ?_
    refine doL_v (opV_loadSA (vs := mc m) k 0 (holds_base hT) ha ty101 rfl rfl) rfl rfl rfl ?_
    refine doL_vg (F := vB) (opV_callV en_mq rfl rfl rfl (fun w' k' => cMass1 aj am cj nm cm n b _ _ _ _ _ m1 m2 m3 m4 m5 w' (by rw [k'.grow.block b (heap_lt hb)]; exact hb))) rfl rfl rfl ?_; intro r16 hr16
    refine doL_nil ?_
    refine post_then ?_
    refine doC_cond_f rfl (hr16) ?_
    refine doC_skip ?_
    refine post_block_normal ?_
    refine post_then ?_
    refine doC_region ?_
    refine doL_v (opV_add rfl rfl (inc_nat (by omega))) rfl rfl rfl ?_
    refine doL_v (opV_move rfl) rfl rfl rfl ?_
    refine doL_nil ?_
    refine post_again (k + 1) (by show k + 1 ≤ nm; omega) (by show nm - (k + 1) < nm - k; omega) rfl ?_ ?_ rfl
    repeat' first | exact trivial | exact True.intro | refine ⟨rfl, ?_⟩
  ·
    refine doC_exit ?_
    refine post_then_exit ?_
    refine post_then_exit ?_
    refine post_block_exit ?_
    refine post_then ?_
    refine doC_seq ?_
    refine doC_region ?_
    refine doL_v (opV_assign rfl) rfl rfl rfl ?_
    refine doL_nil ?_
    refine post_then ?_
    refine doC_ret ?_
    refine post_rets (rs := [.tmp 4]) rfl (resC (resIs_tmp rfl) (resN)) (congrArg (vI) (?_ : _ = -1))
    rfl
theorem hasMs  (aj am : Option Addr) (cj nm cm n b : Nat) (l : List Ms) (hn : nm ≤ 1000) (hbn : l.length = nm) (hv : ∀ m ∈ l, MB n m) (w : World) (hT : SlcIs 5 am (l.map mc) w) (hb : w.heap[b]? = some (.cells [.slice aj n cj, .slice am nm cm].toArray 26)) : Calls Tryz.prog 76 [.slice am nm cm, .func (.func 77) #[] #[.pointer (some ⟨b, 0, none⟩)]].toArray w (Rets (vB (false)) (w)) := by
  refine calls_of_doC (n := 9) Tryz.func76 rfl rfl rfl ?_
  refine doC_seq ?_
  refine doC_region ?_
  refine doL_v (opV_assign rfl) rfl rfl rfl ?_
  refine doL_nil ?_
  refine post_then ?_
  refine doC_seq ?_
  refine doC_region ?_
  refine doL_v (opV_move rfl) rfl rfl rfl ?_
  refine doL_v (opV_move rfl) rfl rfl rfl ?_
  refine doL_vg (F := vI) (opV_call en104 rfl (fun w' k => ixMs aj am cj nm cm n b l hn hbn hv w' (slc_grow hT k.grow) (by rw [k.grow.block b (heap_lt hb)]; exact hb))) rfl rfl rfl ?_; intro r7 hr7
  refine doL_v (opV_geq rfl rfl) rfl rfl rfl ?_
  refine doL_v (opV_assign rfl) rfl rfl rfl ?_
  refine doL_nil ?_
  refine post_then ?_
  refine doC_ret ?_
  refine post_rets (rs := [.tmp 4]) rfl (resC (resIs_tmp rfl) (resN)) (congrArg (vB) (?_ : _ = false))
  rw [hr7]; rfl
end Go.Proofs.YtonampcmhhhffaaGreat
namespace Go.Proofs.YtonampcmhhhffaaGreat
open Go.Sx
theorem en75 : Enters Tryz.prog 75 := enters_of Tryz.func75 (by kernel_rfl) (by kernel_rfl)
theorem en76 : Enters Tryz.prog 76 := enters_of Tryz.func76 (by kernel_rfl) (by kernel_rfl)
def JOK (js : List J) (i : Nat) (j : J) : Prop := ∃ c : Nat, (∀ (k : Nat), k < i → ∀ (j2 : J), js[k]? = some j2 → (j2.name.toList == j.name.toList) = false) ∧ j.name.size = 1 ∧ Utf8.decode j.name 0 = (c, 1) ∧ (97 ≤ c ∧ c ≤ 122) ∧ (j.name.toList == (ByteArray.mk #[119, 111, 114, 108, 100]).toList) = false ∧
    (0 ≤ j.kind ∧ j.kind ≤ 6) ∧ (-1 ≤ j.parent ∧ j.parent < i) ∧ (-4194304 ≤ j.off.x ∧ j.off.x ≤ 4194304) ∧ (-4194304 ≤ j.off.y ∧ j.off.y ≤ 4194304) ∧ (-4194304 ≤ j.off.z ∧ j.off.z ≤ 4194304) ∧ (j.lo ≤ j.hi ∧ -limK j.kind ≤ j.lo ∧ j.hi ≤ limK j.kind) ∧
    (1 ≤ j.weight ∧ j.weight ≤ 1024) ∧ (1 ≤ j.speed ∧ j.speed ≤ 1048576) ∧ (1 ≤ j.accel ∧ j.accel ≤ 1048576) ∧ (1 ≤ j.torque ∧ j.torque ≤ 1099511627776)
theorem cJok (aj am : Option Addr) (cj nm cm n i : Nat) (js : List J) (j : J) (hn : n ≤ 1000) (hjn : js.length = n) (hin : i < n) (hjk : js[i]? = some j) (h : JOK js i j) (w : World) (hS : SlcIs 12 aj (js.map jc) w) :
    Calls Tryz.prog 75 [.agg #[.slice aj n cj, .slice am nm cm], .int .i64 (i : Int)].toArray w (Rets (vI (0 : Int)) w) := by
  obtain ⟨c, a1, a2, a3, a4, a5, a6, a7, a8, a9, a10, a11, a12, a13, a14, a15⟩ := h
  exact cJoint aj am cj nm cm n i js j c hn hjn hin hjk a1 a2 a3 a4 a5 a6 a7 a8 a9 a10 a11 a12 a13 a14 a15 w hS
theorem cCheck  (aj am : Option Addr) (cj nm cm n : Nat) (js : List J) (l : List Ms) (hn : 1 ≤ n ∧ n ≤ 10) (hm : nm ≤ 32) (hjn : js.length = n) (hln : l.length = nm) (hJ : ∀ (i : Nat) (j : J), js[i]? = some j → JOK js i j) (hv : ∀ m ∈ l, MB n m) (w : World) (hS : SlcIs 12 aj (js.map jc) w) (hT : SlcIs 5 am (l.map mc) w) : Calls Tryz.prog 45 [.agg #[.slice aj n cj, .slice am nm cm]].toArray w (Rets (vI ((0 : Int))) (w)) := by
  refine calls_of_doC (n := 38) Tryz.func45 rfl rfl rfl ?_
  refine doC_seq ?_
  refine doC_region ?_
  refine doL_box 1 rfl rfl rfl rfl ?_; intro b1
  refine doL_v (opV_assign rfl) rfl rfl rfl ?_
  refine doL_nil ?_
  refine post_then ?_
  refine doC_seq ?_
  refine doC_seq ?_
  refine doC_region ?_
  refine doL_v (opV_fieldAddr fa26_0 rfl) rfl rfl rfl ?_
  refine doL_v (opV_load1 1 ty23 rfl rfl rfl) rfl rfl rfl ?_
  refine doL_v (opV_len_slice sl23 rfl) rfl rfl rfl ?_
  refine doL_v (opV_eql rfl rfl) rfl rfl rfl ?_
  refine doL_v (opV_move rfl) rfl rfl rfl ?_
  refine doL_false 9 rfl (by rw [decide_eq_false_iff_not]; omega) ?_
  refine doL_v (opV_fieldAddr fa26_0 rfl) rfl rfl rfl ?_
  refine doL_v (opV_load1 1 ty23 rfl rfl rfl) rfl rfl rfl ?_
  refine doL_v (opV_len_slice sl23 rfl) rfl rfl rfl ?_
  refine doL_v (opV_gtr rfl rfl) rfl rfl rfl ?_
  refine doL_v (opV_pick_f rfl rfl rfl rfl) rfl rfl rfl ?_
  refine doL_nil ?_
  refine post_then ?_
  refine doC_cond_f rfl (by rw [decide_eq_false_iff_not]; omega) ?_
  refine doC_skip ?_
  refine post_then ?_
  refine doC_seq ?_
  refine doC_seq ?_
  refine doC_region ?_
  refine doL_v (opV_fieldAddr fa26_0 rfl) rfl rfl rfl ?_
  refine doL_v (opV_load1 1 ty23 rfl rfl rfl) rfl rfl rfl ?_
  refine doL_v (opV_len_slice sl23 rfl) rfl rfl rfl ?_
  refine doL_v (opV_move rfl) rfl rfl rfl ?_
  refine doL_nil ?_
  refine post_then ?_
  refine doC_block ?_
  refine doC_loopK [1, 17] [1] (α := Nat) (fun x => n - x) (fun x => x ≤ n) (fun _ => ⟨w, []⟩) (fun x => [(18, .int .i64 (x : Int))]) (fun _ => []) 0 rfl rfl ?_ ?_ ?_ ?_ rfl ?_
  ·
    exact Nat.zero_le _
  ·
    exact rfl
  ·
    repeat' first | exact trivial | exact True.intro | refine ⟨rfl, ?_⟩
  ·
    repeat' first | exact trivial | exact True.intro | refine ⟨rfl, ?_⟩
  rintro i hi
  try dsimp only at hi ⊢
  refine doC_seq ?_
  refine doC_region ?_
  refine doL_v (opV_lss rfl rfl) rfl rfl rfl ?_
  refine doL_nil ?_
  refine post_then ?_
  refine doC_seq ?_
  refine doC_cond rfl (fun hc19 => ?_) (fun hc19 => ?_)
  ·
    have h2 : i < n := by have := of_decide_eq_true hc19; omega
    obtain ⟨j, hjk⟩ : ∃ j, js[i]? = some j := ⟨_, List.getElem?_eq_getElem (by omega)⟩
    refine doC_skip ?_
    refine post_then ?_
    refine doC_seq ?_
    refine doC_block ?_
    refine doC_seq ?_
    refine doC_region ?_
    refine doL_v (opV_move rfl) rfl rfl rfl ?_
    refine doL_v (opV_assign rfl) rfl rfl rfl ?_
    refine doL_nil ?_
    refine post_then ?_
    refine doC_seq ?_
    refine doC_region ?_
    refine doL_v (opV_loadA 1 ty26 rfl rfl rfl) rfl rfl rfl ?_
    refine doL_v (opV_move rfl) rfl rfl rfl ?_
    refine doL_vg (F := vI) (opV_call en75 rfl (fun w' k => cJok aj am cj nm cm n i js j (by omega) hjn h2 hjk (hJ i j hjk) w' (slc_grow hS k.grow))) rfl rfl rfl ?_; intro r23 hr23
    refine doL_v (opV_assign rfl) rfl rfl rfl ?_
    refine doL_nil ?_
    refine post_then ?_
    refine doC_seq ?_
    refine doC_region ?_
    refine doL_v (opV_move rfl) rfl rfl rfl ?_
    refine doL_v (opV_neq rfl rfl) rfl rfl rfl ?_
    refine doL_nil ?_
    refine post_then ?_
    refine doC_cond_f rfl (by rw [hr23]; rfl) ?_
    refine doC_skip ?_
    refine post_block_normal ?_
    refine post_then ?_
    refine doC_region ?_
    refine doL_v (opV_add rfl rfl (inc_nat (by omega))) rfl rfl rfl ?_
    refine doL_v (opV_move rfl) rfl rfl rfl ?_
    refine doL_nil ?_
    refine post_again (i + 1) (by show i + 1 ≤ n; omega) (by show n - (i + 1) < n - i; omega) rfl ?_ ?_ rfl
    repeat' first | exact trivial | exact True.intro | refine ⟨rfl, ?_⟩
  ·
    refine doC_exit ?_
    refine post_then_exit ?_
    refine post_then_exit ?_
    refine post_block_exit ?_
    refine post_then ?_
    refine doC_seq ?_
    refine doC_seq ?_
    refine doC_region ?_
    refine doL_v (opV_fieldAddr fa26_1 rfl) rfl rfl rfl ?_
    refine doL_v (opV_load1 1 ty24 rfl rfl rfl) rfl rfl rfl ?_
    refine doL_v (opV_len_slice sl24 rfl) rfl rfl rfl ?_
    refine doL_v (opV_gtr rfl rfl) rfl rfl rfl ?_
    refine doL_v (opV_move rfl) rfl rfl rfl ?_
    refine doL_false 32 rfl (by rw [decide_eq_false_iff_not]; omega) ?_
    refine doL_v (opV_fieldAddr fa26_1 rfl) rfl rfl rfl ?_
    refine doL_v (opV_load1 1 ty24 rfl rfl rfl) rfl rfl rfl ?_
    refine doL_v (opV_makeFunc rfl rfl) rfl rfl rfl ?_
    refine doL_vg (F := vB) (opV_call en76 rfl (fun w' k => hasMs aj am cj nm cm n b1 l (by omega) hln hv w' (slc_grow hT k.grow) (k.at (i := 1) rfl).2)) rfl rfl rfl ?_; intro r36 hr36
    refine doL_v (opV_pick_f rfl rfl rfl rfl) rfl rfl rfl ?_
    refine doL_nil ?_
    refine post_then ?_
    refine doC_cond_f rfl (hr36) ?_
    refine doC_skip ?_
    refine post_then ?_
    refine doC_seq ?_
    refine doC_region ?_
    refine doL_v (opV_assign rfl) rfl rfl rfl ?_
    refine doL_nil ?_
    refine post_then ?_
    refine doC_ret ?_
    refine post_rets (rs := [.tmp 2]) rfl (resC (resIs_tmp rfl) (resN)) (congrArg (vI) (?_ : _ = (0 : Int)))
    rfl
end Go.Proofs.YtonampcmhhhffaaGreat
namespace Go.Proofs.YtonampcmhhhffaaGreat
open Go.Sx
theorem en27 : Enters Tryz.prog 27 := enters_of Tryz.func27 (by kernel_rfl) (by kernel_rfl)
theorem en45 : Enters Tryz.prog 45 := enters_of Tryz.func45 (by kernel_rfl) (by kernel_rfl)
theorem en29 : Enters Tryz.prog 29 := enters_of Tryz.func29 (by kernel_rfl) (by kernel_rfl)
end Go.Proofs.YtonampcmhhhffaaGreat
namespace Go.Proofs.YtonampcmhhhffaaGreat
open Go.Sx Go.RowKit
theorem let0 : (letterB 0).size = 1 ∧ Utf8.decode (letterB 0) 0 = (97, 1) ∧ ((letterB 0).toList == (ByteArray.mk #[119, 111, 114, 108, 100]).toList) = false := by refine ⟨?_, ?_, ?_⟩ <;> kernel_rfl
theorem let1 : (letterB 1).size = 1 ∧ Utf8.decode (letterB 1) 0 = (98, 1) ∧ ((letterB 1).toList == (ByteArray.mk #[119, 111, 114, 108, 100]).toList) = false := by refine ⟨?_, ?_, ?_⟩ <;> kernel_rfl
theorem let2 : (letterB 2).size = 1 ∧ Utf8.decode (letterB 2) 0 = (99, 1) ∧ ((letterB 2).toList == (ByteArray.mk #[119, 111, 114, 108, 100]).toList) = false := by refine ⟨?_, ?_, ?_⟩ <;> kernel_rfl
theorem ne01 : ((letterB 0).toList == (letterB 1).toList) = false := by kernel_rfl
theorem ne02 : ((letterB 0).toList == (letterB 2).toList) = false := by kernel_rfl
theorem ne12 : ((letterB 1).toList == (letterB 2).toList) = false := by kernel_rfl
theorem letter_ok (k : Nat) (h : k < 3) : ∃ c : Nat, (letterB k).size = 1 ∧ Utf8.decode (letterB k) 0 = (c, 1) ∧ (97 ≤ c ∧ c ≤ 122) ∧ ((letterB k).toList == (ByteArray.mk #[119, 111, 114, 108, 100]).toList) = false := by
  rcases (show k = 0 ∨ k = 1 ∨ k = 2 by omega) with rfl | rfl | rfl
  · exact ⟨97, let0.1, let0.2.1, by omega, let0.2.2⟩
  · exact ⟨98, let1.1, let1.2.1, by omega, let1.2.2⟩
  · exact ⟨99, let2.1, let2.2.1, by omega, let2.2.2⟩
theorem letter_ne (a b : Nat) (h : a < b) (hb : b < 3) : ((letterB a).toList == (letterB b).toList) = false := by
  rcases (show (a = 0 ∧ b = 1) ∨ (a = 0 ∧ b = 2) ∨ (a = 1 ∧ b = 2) by omega) with ⟨rfl, rfl⟩ | ⟨rfl, rfl⟩ | ⟨rfl, rfl⟩
  · exact ne01
  · exact ne02
  · exact ne12
theorem joint_lim (L : List Int) (p : Nat) (k : Int) : -limK (jointOf L p k).1.kind ≤ (jointOf L p k).1.lo ∧ (jointOf L p k).1.hi ≤ limK (jointOf L p k).1.kind := by
  have hk := (jointOf_same L p k).2.1
  rw [hk]
  by_cases h0 : kindOf (srcR L (p + 2) 8) = 0
  · rw [jointOf_fix h0, h0]
    exact ⟨by show -limK 0 ≤ 0; decide, by show 0 ≤ limK 0; decide⟩
  · by_cases h : kindOf (srcR L (p + 2) 8) = 4 ∨ kindOf (srcR L (p + 2) 8) = 5
    · rw [jointOf_sl h]
      have a := srcR_bnd L (jQ p k) (k := 3) (by decide)
      have b := srcR_bnd L (jQ p k + 1) (k := 4) (by decide)
      have e : limK (kindOf (srcR L (p + 2) 8)) = 4194304 := by unfold limK; rw [if_neg (by omega), if_pos (by omega)]
      rw [e]
      dsimp only
      omega
    · rw [jointOf_tu h0 h]
      have a := srcR_bnd L (jQ p k) (k := 5) (by decide)
      have b := srcR_bnd L (jQ p k + 1) (k := 4) (by decide)
      have c := srcR_bnd L (jQ p k + 2) (k := 3) (by decide)
      have e : 524288 ≤ limK (kindOf (srcR L (p + 2) 8)) := by
        have := kindOf_b (srcR L (p + 2) 8)
        unfold limK
        repeat' split
        all_goals omega
      dsimp only
      rw [Int.tdiv_eq_ediv_of_nonneg (a := (1 + srcR L (jQ p k + 1) 4) * 65536) (by omega), show (-srcR L (jQ p k) 5 * 65536).tdiv 8 = -(srcR L (jQ p k) 5 * 8192) by
        rw [show -srcR L (jQ p k) 5 * 65536 = -(srcR L (jQ p k) 5 * 8192) * 8 by omega]
        exact Int.mul_tdiv_cancel _ (by decide)]
      omega
theorem base_b (L : List Int) (p k : Nat) : (-1 ≤ (jBase L p (k : Int)).parent ∧ (jBase L p (k : Int)).parent < k) ∧ (-4194304 ≤ (jBase L p (k : Int)).off.x ∧ (jBase L p (k : Int)).off.x ≤ 4194304) ∧ (-4194304 ≤ (jBase L p (k : Int)).off.y ∧ (jBase L p (k : Int)).off.y ≤ 4194304) ∧ (-4194304 ≤ (jBase L p (k : Int)).off.z ∧ (jBase L p (k : Int)).off.z ≤ 4194304) := by
  have c := srcR_bnd L (p + 4) (k := 2 * 2 + 1) (by decide)
  have d := srcR_bnd L (p + 5) (k := 2 * 1 + 1) (by decide)
  unfold jBase srcS
  dsimp only
  refine ⟨?_, ?_⟩
  · split <;> omega
  · split <;> (dsimp only; omega)
theorem made_JOK (L : List Int) (i n : Nat) (hn : n ≤ 3) (k : Nat) (j : J) (h : (jsOf L i n).1[k]? = some j) : JOK (jsOf L i n).1 k j := by
  have hk : k < n := by have := (List.getElem?_eq_some_iff.1 h).1; rw [jsOf_len] at this; exact this
  obtain ⟨p, rfl⟩ := jsOf_get L i n k j h
  obtain ⟨s1, s2, s3, s4, s5, s6, s7, s8⟩ := jointOf_same L p (k : Int)
  obtain ⟨c, l1, l2, l3, l4⟩ := letter_ok k (by omega)
  obtain ⟨b1, b2, b3, b4⟩ := base_b L p k
  have lim := joint_lim L p (k : Int)
  have jb := jointOf_b L p (k : Int)
  have a := srcR_bnd L p (k := 4) (by decide)
  have b := srcR_bnd L (p + 1) (k := 3) (by decide)
  refine ⟨c, fun q hq j2 h2 => ?_, by rw [s1]; exact l1, by rw [s1]; exact l2, l3, by rw [s1]; exact l4, by rw [s2]; exact kindOf_b _, by rw [s3]; exact b1, by rw [s4]; exact b2, by rw [s4]; exact b3, by rw [s4]; exact b4, ⟨jb.2.1, lim.1, lim.2⟩, by rw [s5]; omega, by rw [s6]; omega, by rw [s7]; omega, by rw [s8]; omega⟩
  obtain ⟨p2, rfl⟩ := jsOf_get L i n q j2 h2
  rw [(jointOf_same L p2 (q : Int)).1, s1]
  exact letter_ne q k hq (by omega)
end Go.Proofs.YtonampcmhhhffaaGreat
namespace Go.Proofs.YtonampcmhhhffaaGreat
open Go.Sx
theorem fa41_1 : fieldB Tryz.prog 41 1 1 = true := by kernel_rfl
theorem fa41_2 : fieldB Tryz.prog 41 2 2 = true := by kernel_rfl
theorem ty39 : tyB Tryz.prog 39 false 1 = true := by kernel_rfl
theorem fa41_0 : fieldB Tryz.prog 41 0 0 = true := by kernel_rfl
theorem en53 : Enters Tryz.prog 53 := enters_of Tryz.func53 (by kernel_rfl) (by kernel_rfl)
theorem ty41 : tyB Tryz.prog 41 true 3 = true := by kernel_rfl
theorem en52 : Enters Tryz.prog 52 := enters_of Tryz.func52 (by kernel_rfl) (by kernel_rfl)
theorem ty76 : tyB Tryz.prog 76 true 2 = true := by kernel_rfl
theorem fa76_0 : fieldB Tryz.prog 76 0 0 = true := by kernel_rfl
theorem fa76_1 : fieldB Tryz.prog 76 1 1 = true := by kernel_rfl
theorem en57 : Enters Tryz.prog 57 := enters_of Tryz.func57 (by kernel_rfl) (by kernel_rfl)
theorem app42 : appB Tryz.prog 42 46 6 48 = true := by kernel_rfl
theorem en58 : Enters Tryz.prog 58 := enters_of Tryz.func58 (by kernel_rfl) (by kernel_rfl)
theorem sIsLink (i : Int) (aj am asp ak : Option Addr) (cj nm cm csp ck n ns nk : Nat) (hi : -1 ≤ i ∧ i < n) (w : World) : Calls Tryz.prog 53 [.agg #[.slice aj n cj, .slice am nm cm, .slice asp ns csp, .slice ak nk ck], .int .i64 i].toArray w (Rets (vB (true)) (w)) := by
  refine calls_of_doC (n := 15) Tryz.func53 rfl rfl rfl ?_
  refine doC_seq ?_
  refine doC_region ?_
  refine doL_box 2 rfl rfl rfl rfl ?_; intro b2
  refine doL_v (opV_assign rfl) rfl rfl rfl ?_
  refine doL_nil ?_
  refine post_then ?_
  refine doC_seq ?_
  refine doC_region ?_
  refine doL_v (opV_move rfl) rfl rfl rfl ?_
  refine doL_v (opV_leq rfl rfl) rfl rfl rfl ?_
  refine doL_v (opV_move rfl) rfl rfl rfl ?_
  refine doL_true 7 rfl (decide_eq_true (by omega)) ?_
  refine doL_v (opV_move rfl) rfl rfl rfl ?_
  refine doL_v (opV_fieldAddr fa30_0 rfl) rfl rfl rfl ?_
  refine doL_v (opV_fieldAddr fa26_0 rfl) rfl rfl rfl ?_
  refine doL_v (opV_load1 2 ty23 rfl rfl rfl) rfl rfl rfl ?_
  refine doL_v (opV_len_slice sl23 rfl) rfl rfl rfl ?_
  refine doL_v (opV_lss rfl rfl) rfl rfl rfl ?_
  refine doL_v (opV_pick_t rfl rfl rfl rfl) rfl rfl rfl ?_
  refine doL_v (opV_assign rfl) rfl rfl rfl ?_
  refine doL_nil ?_
  refine post_then ?_
  refine doC_ret ?_
  refine post_rets (rs := [.tmp 4]) rfl (resC (resIs_tmp rfl) (resN)) (congrArg (vB) (?_ : _ = true))
  exact decide_eq_true (by omega)
theorem shCheck  (lk rad : Int) (ap : Option Addr) (np cp : Nat) (pts : List Z3) (hnp : pts.length = np) (hr : 1 ≤ rad ∧ rad ≤ 1048576) (hl : 1 ≤ np ∧ np ≤ 8) (hb : ∀ z ∈ pts, ZB z) (w : World) (hT : SlcIs 3 ap (pts.map z3c) w) : Calls Tryz.prog 57 [.agg #[.int .i64 lk, .int .i64 rad, .slice ap np cp]].toArray w (Rets (vB (true)) (w)) := by
  refine calls_of_doC (n := 46) Tryz.func57 rfl rfl rfl ?_
  refine doC_seq ?_
  refine doC_region ?_
  refine doL_box 1 rfl rfl rfl rfl ?_; intro b1
  refine doL_v (opV_assign rfl) rfl rfl rfl ?_
  refine doL_nil ?_
  refine post_then ?_
  refine doC_seq ?_
  refine doC_seq ?_
  refine doC_region ?_
  refine doL_v (opV_fieldAddr fa41_1 rfl) rfl rfl rfl ?_
  refine doL_v (opV_load1 1 ty2 rfl rfl rfl) rfl rfl rfl ?_
  refine doL_v (opV_lss rfl rfl) rfl rfl rfl ?_
  refine doL_v (opV_move rfl) rfl rfl rfl ?_
  refine doL_false 10 rfl (by rw [decide_eq_false_iff_not]; omega) ?_
  refine doL_v (opV_fieldAddr fa41_1 rfl) rfl rfl rfl ?_
  refine doL_v (opV_load1 1 ty2 rfl rfl rfl) rfl rfl rfl ?_
  refine doL_v (opV_gtr rfl rfl) rfl rfl rfl ?_
  refine doL_v (opV_pick_f rfl rfl rfl rfl) rfl rfl rfl ?_
  refine doL_v (opV_move rfl) rfl rfl rfl ?_
  refine doL_false 15 rfl (by rw [decide_eq_false_iff_not]; omega) ?_
  refine doL_v (opV_fieldAddr fa41_2 rfl) rfl rfl rfl ?_
  refine doL_v (opV_load1 1 ty39 rfl rfl rfl) rfl rfl rfl ?_
  refine doL_v (opV_len_slice sl39 rfl) rfl rfl rfl ?_
  refine doL_v (opV_lss rfl rfl) rfl rfl rfl ?_
  refine doL_v (opV_pick_f rfl rfl rfl rfl) rfl rfl rfl ?_
  refine doL_v (opV_move rfl) rfl rfl rfl ?_
  refine doL_false 21 rfl (by rw [decide_eq_false_iff_not]; omega) ?_
  refine doL_v (opV_fieldAddr fa41_2 rfl) rfl rfl rfl ?_
  refine doL_v (opV_load1 1 ty39 rfl rfl rfl) rfl rfl rfl ?_
  refine doL_v (opV_len_slice sl39 rfl) rfl rfl rfl ?_
  refine doL_v (opV_gtr rfl rfl) rfl rfl rfl ?_
  refine doL_v (opV_pick_f rfl rfl rfl rfl) rfl rfl rfl ?_
  refine doL_nil ?_
  refine post_then ?_
  refine doC_cond_f rfl (by rw [decide_eq_false_iff_not]; omega) ?_
  refine doC_skip ?_
  refine post_then ?_
  refine doC_seq ?_
  refine doC_seq ?_
  refine doC_region ?_
  refine doL_v (opV_fieldAddr fa41_2 rfl) rfl rfl rfl ?_
  refine doL_v (opV_load1 1 ty39 rfl rfl rfl) rfl rfl rfl ?_
  refine doL_v (opV_len_slice sl39 rfl) rfl rfl rfl ?_
  refine doL_v (opV_move rfl) rfl rfl rfl ?_
  refine doL_nil ?_
  refine post_then ?_
  refine doC_block ?_
  refine doC_loopK [28, 29] [] (α := Nat) (fun x => np - x) (fun x => x ≤ np) (fun _ => ⟨w, []⟩) (fun x => [(30, .int .i64 (x : Int))]) (fun _ => []) 0 rfl rfl ?_ ?_ ?_ ?_ rfl ?_
  ·
    exact Nat.zero_le _
  ·
    exact rfl
  ·
    repeat' first | exact trivial | exact True.intro | refine ⟨rfl, ?_⟩
  ·
    repeat' first | exact trivial | exact True.intro | refine ⟨rfl, ?_⟩
  rintro k hk
  try dsimp only at hk ⊢
  refine doC_seq ?_
  refine doC_region ?_
  refine doL_v (opV_lss rfl rfl) rfl rfl rfl ?_
  refine doL_nil ?_
  refine post_then ?_
  refine doC_seq ?_
  refine doC_cond rfl (fun hc31 => ?_) (fun hc31 => ?_)
  ·
    have h2 : k < np := by have := of_decide_eq_true hc31; omega
    obtain ⟨z, hzk⟩ : ∃ z, pts[k]? = some z := ⟨_, List.getElem?_eq_getElem (by omega)⟩
    have hz : (pts.map z3c)[k]? = some (z3c z) := by rw [List.getElem?_map, hzk]; rfl
    obtain ⟨z0, z1, z2⟩ := hb z (List.mem_of_getElem? hzk)
    refine doC_skip ?_
    refine post_then ?_
    refine doC_seq ?_
    refine doC_block ?_
    refine doC_seq ?_
    refine doC_region ?_
    refine doL_v (opV_indexS (e := 50) (holds_base hT) (by kernel_rfl) rfl rfl rfl hz h2) rfl rfl rfl ?_
    refine doL_v (opV_loadSA (vs := z3c z) k 0 (holds_base hT) hz ty50 rfl rfl) rfl rfl rfl ?_
    refine doL_alloc 4 ze50 rfl rfl rfl ?_; intro b4
    refine doL_store 4 ty50 rfl rfl rfl rfl rfl rfl rfl rfl ?_
    refine doL_nil ?_
    refine post_then ?_
    refine doC_seq ?_
    refine doC_region ?_
    refine doL_v (opV_loadA 4 ty50 rfl rfl rfl) rfl rfl rfl ?_
    refine doL_v (opV_move rfl) rfl rfl rfl ?_
    refine doL_nil ?_
    refine post_then ?_
    refine doC_block ?_
    refine doC_rounds 4 ?_
    refine doR_succ ?_
    refine doC_seq ?_
    refine doC_region ?_
    refine doL_v (opV_lss rfl rfl) rfl rfl rfl ?_
    refine doL_nil ?_
    refine post_then ?_
    refine doC_seq ?_
    refine doC_cond_t rfl (by decide) ?_
    refine doC_skip ?_
    refine post_then ?_
    refine doC_seq ?_
    refine doC_block ?_
    refine doC_seq ?_
    refine doC_region ?_
    refine doL_v (opV_index rfl rfl (ix3_0)) rfl rfl rfl ?_
    refine doL_v (opV_assign rfl) rfl rfl rfl ?_
    refine doL_nil ?_
    refine post_then ?_
    refine doC_seq ?_
    refine doC_region ?_
    refine doL_v (opV_move rfl) rfl rfl rfl ?_
    refine doL_v (opV_lss rfl rfl) rfl rfl rfl ?_
    refine doL_v (opV_move rfl) rfl rfl rfl ?_
    refine doL_false 40 rfl (by rw [decide_eq_false_iff_not]; omega) ?_
    refine doL_v (opV_move rfl) rfl rfl rfl ?_
    refine doL_v (opV_gtr rfl rfl) rfl rfl rfl ?_
    refine doL_v (opV_pick_f rfl rfl rfl rfl) rfl rfl rfl ?_
    refine doL_nil ?_
    refine post_then ?_
    refine doC_cond_f rfl (by rw [decide_eq_false_iff_not]; omega) ?_
    refine doC_skip ?_
    refine post_block_normal ?_
    refine post_then ?_
    refine doC_region ?_
    refine doL_v (opV_add rfl rfl (by first | exact i64_in ⟨by omega, by omega⟩ | rfl)) rfl rfl rfl ?_
    refine doL_v (opV_move rfl) rfl rfl rfl ?_
    refine doL_nil ?_
    refine post_rounds ?_
    refine doR_succ ?_
    refine doC_seq ?_
    refine doC_region ?_
    refine doL_v (opV_lss rfl rfl) rfl rfl rfl ?_
    refine doL_nil ?_
    refine post_then ?_
    refine doC_seq ?_
    refine doC_cond_t rfl (by decide) ?_
    refine doC_skip ?_
    refine post_then ?_
    refine doC_seq ?_
    refine doC_block ?_
    refine doC_seq ?_
    refine doC_region ?_
    refine doL_v (opV_index rfl rfl (ix3_1)) rfl rfl rfl ?_
    refine doL_v (opV_assign rfl) rfl rfl rfl ?_
    refine doL_nil ?_
    refine post_then ?_
    refine doC_seq ?_
    refine doC_region ?_
    refine doL_v (opV_move rfl) rfl rfl rfl ?_
    refine doL_v (opV_lss rfl rfl) rfl rfl rfl ?_
    refine doL_v (opV_move rfl) rfl rfl rfl ?_
    refine doL_false 40 rfl (by rw [decide_eq_false_iff_not]; omega) ?_
    refine doL_v (opV_move rfl) rfl rfl rfl ?_
    refine doL_v (opV_gtr rfl rfl) rfl rfl rfl ?_
    refine doL_v (opV_pick_f rfl rfl rfl rfl) rfl rfl rfl ?_
    refine doL_nil ?_
    refine post_then ?_
    refine doC_cond_f rfl (by rw [decide_eq_false_iff_not]; omega) ?_
    refine doC_skip ?_
    refine post_block_normal ?_
    refine post_then ?_
    refine doC_region ?_
    refine doL_v (opV_add rfl rfl (by first | exact i64_in ⟨by omega, by omega⟩ | rfl)) rfl rfl rfl ?_
    refine doL_v (opV_move rfl) rfl rfl rfl ?_
    refine doL_nil ?_
    refine post_rounds ?_
    refine doR_succ ?_
    refine doC_seq ?_
    refine doC_region ?_
    refine doL_v (opV_lss rfl rfl) rfl rfl rfl ?_
    refine doL_nil ?_
    refine post_then ?_
    refine doC_seq ?_
    refine doC_cond_t rfl (by decide) ?_
    refine doC_skip ?_
    refine post_then ?_
    refine doC_seq ?_
    refine doC_block ?_
    refine doC_seq ?_
    refine doC_region ?_
    refine doL_v (opV_index rfl rfl (ix3_2)) rfl rfl rfl ?_
    refine doL_v (opV_assign rfl) rfl rfl rfl ?_
    refine doL_nil ?_
    refine post_then ?_
    refine doC_seq ?_
    refine doC_region ?_
    refine doL_v (opV_move rfl) rfl rfl rfl ?_
    refine doL_v (opV_lss rfl rfl) rfl rfl rfl ?_
    refine doL_v (opV_move rfl) rfl rfl rfl ?_
    refine doL_false 40 rfl (by rw [decide_eq_false_iff_not]; omega) ?_
    refine doL_v (opV_move rfl) rfl rfl rfl ?_
    refine doL_v (opV_gtr rfl rfl) rfl rfl rfl ?_
    refine doL_v (opV_pick_f rfl rfl rfl rfl) rfl rfl rfl ?_
    refine doL_nil ?_
    refine post_then ?_
    refine doC_cond_f rfl (by rw [decide_eq_false_iff_not]; omega) ?_
    refine doC_skip ?_
    refine post_block_normal ?_
    refine post_then ?_
    refine doC_region ?_
    refine doL_v (opV_add rfl rfl (by first | exact i64_in ⟨by omega, by omega⟩ | rfl)) rfl rfl rfl ?_
    refine doL_v (opV_move rfl) rfl rfl rfl ?_
    refine doL_nil ?_
    refine post_rounds ?_
    refine doR_succ ?_
    refine doC_seq ?_
    refine doC_region ?_
    refine doL_v (opV_lss rfl rfl) rfl rfl rfl ?_
    refine doL_nil ?_
    refine post_then ?_
    refine doC_seq ?_
    refine doC_cond_f rfl (by decide) ?_
    refine doC_exit ?_
    refine post_then_exit ?_
    refine post_then_exit ?_
    refine post_block_exit ?_
    refine post_block_normal ?_
    refine post_then ?_
    refine doC_region ?_
    refine doL_v (opV_add rfl rfl (inc_nat (by omega))) rfl rfl rfl ?_
    refine doL_v (opV_move rfl) rfl rfl rfl ?_
    refine doL_nil ?_
    refine post_again (k + 1) (by show k + 1 ≤ np; omega) (by show np - (k + 1) < np - k; omega) rfl ?_ ?_ rfl
    repeat' first | exact trivial | exact True.intro | refine ⟨rfl, ?_⟩
  ·
    refine doC_exit ?_
    refine post_then_exit ?_
    refine post_then_exit ?_
    refine post_block_exit ?_
    refine post_then ?_
    refine doC_seq ?_
    refine doC_region ?_
    refine doL_v (opV_assign rfl) rfl rfl rfl ?_
    refine doL_nil ?_
    refine post_then ?_
    refine doC_ret ?_
    refine post_rets (rs := [.tmp 2]) rfl (resC (resIs_tmp rfl) (resN)) (congrArg (vB) (?_ : _ = true))
    rfl
theorem sCheckShape  (aj am asp ak : Option Addr) (cj nm cm csp ck n ns nk : Nat) (lk rad : Int) (ap : Option Addr) (np cp : Nat) (pts : List Z3) (hlk : -1 ≤ lk ∧ lk < n) (hnp : pts.length = np) (hr : 1 ≤ rad ∧ rad ≤ 1048576) (hl : 1 ≤ np ∧ np ≤ 8) (hb : ∀ z ∈ pts, ZB z) (w : World) (hT : SlcIs 3 ap (pts.map z3c) w) : Calls Tryz.prog 52 [.agg #[.slice aj n cj, .slice am nm cm, .slice asp ns csp, .slice ak nk ck], .agg #[.int .i64 lk, .int .i64 rad, .slice ap np cp]].toArray w (Rets (vI ((0 : Int))) (w)) := by
  refine calls_of_doC (n := 55) Tryz.func52 rfl rfl rfl ?_
  refine doC_seq ?_
  refine doC_region ?_
  refine doL_box 2 rfl rfl rfl rfl ?_; intro b2
  refine doL_box 3 rfl rfl rfl rfl ?_; intro b3
  refine doL_v (opV_assign rfl) rfl rfl rfl ?_
  refine doL_nil ?_
  refine post_then ?_
  refine doC_seq ?_
  refine doC_region ?_
  refine doL_v (opV_fieldAddr fa41_2 rfl) rfl rfl rfl ?_
  refine doL_v (opV_load1 3 ty39 rfl rfl rfl) rfl rfl rfl ?_
  refine doL_v (opV_len_slice sl39 rfl) rfl rfl rfl ?_
  refine doL_v (opV_assign rfl) rfl rfl rfl ?_
  refine doL_nil ?_
  refine post_then ?_
  refine doC_seq ?_
  refine doC_seq ?_
  refine doC_region ?_
  refine doL_v (opV_loadA 2 ty30 rfl rfl rfl) rfl rfl rfl ?_
  refine doL_v (opV_fieldAddr fa41_0 rfl) rfl rfl rfl ?_
  refine doL_v (opV_load1 3 ty3 rfl rfl rfl) rfl rfl rfl ?_
  refine doL_vg (F := vB) (opV_call en53 rfl (fun w _ => sIsLink _ _ _ _ _ _ _ _ _ _ _ _ _ hlk w)) rfl rfl rfl ?_; intro r16 hr16
  refine doL_v (opV_not rfl) rfl rfl rfl ?_
  refine doL_v (opV_move rfl) rfl rfl rfl ?_
  refine doL_false 18 rfl (by rw [hr16]; rfl) ?_
  refine doL_v (opV_fieldAddr fa41_1 rfl) rfl rfl rfl ?_
  refine doL_v (opV_load1 3 ty2 rfl rfl rfl) rfl rfl rfl ?_
  refine doL_v (opV_lss rfl rfl) rfl rfl rfl ?_
  refine doL_v (opV_pick_f rfl rfl rfl rfl) rfl rfl rfl ?_
  refine doL_v (opV_move rfl) rfl rfl rfl ?_
  refine doL_false 23 rfl (by rw [decide_eq_false_iff_not]; omega) ?_
  refine doL_v (opV_fieldAddr fa41_1 rfl) rfl rfl rfl ?_
  refine doL_v (opV_load1 3 ty2 rfl rfl rfl) rfl rfl rfl ?_
  refine doL_v (opV_gtr rfl rfl) rfl rfl rfl ?_
  refine doL_v (opV_pick_f rfl rfl rfl rfl) rfl rfl rfl ?_
  refine doL_v (opV_move rfl) rfl rfl rfl ?_
  refine doL_false 28 rfl (by rw [decide_eq_false_iff_not]; omega) ?_
  refine doL_v (opV_move rfl) rfl rfl rfl ?_
  refine doL_v (opV_lss rfl rfl) rfl rfl rfl ?_
  refine doL_v (opV_pick_f rfl rfl rfl rfl) rfl rfl rfl ?_
  refine doL_v (opV_move rfl) rfl rfl rfl ?_
  refine doL_false 32 rfl (by rw [decide_eq_false_iff_not]; omega) ?_
  refine doL_v (opV_move rfl) rfl rfl rfl ?_
  refine doL_v (opV_gtr rfl rfl) rfl rfl rfl ?_
  refine doL_v (opV_pick_f rfl rfl rfl rfl) rfl rfl rfl ?_
  refine doL_nil ?_
  refine post_then ?_
  refine doC_cond_f rfl (by rw [decide_eq_false_iff_not]; omega) ?_
  refine doC_skip ?_
  refine post_then ?_
  refine doC_seq ?_
  refine doC_seq ?_
  refine doC_region ?_
  refine doL_v (opV_fieldAddr fa41_2 rfl) rfl rfl rfl ?_
  refine doL_v (opV_load1 3 ty39 rfl rfl rfl) rfl rfl rfl ?_
  refine doL_v (opV_len_slice sl39 rfl) rfl rfl rfl ?_
  refine doL_v (opV_move rfl) rfl rfl rfl ?_
  refine doL_nil ?_
  refine post_then ?_
  refine doC_block ?_
  refine doC_loopK [37, 38] [] (α := Nat) (fun x => np - x) (fun x => x ≤ np) (fun _ => ⟨w, []⟩) (fun x => [(39, .int .i64 (x : Int))]) (fun _ => []) 0 rfl rfl ?_ ?_ ?_ ?_ rfl ?_
  ·
    exact Nat.zero_le _
  ·
    exact rfl
  ·
    repeat' first | exact trivial | exact True.intro | refine ⟨rfl, ?_⟩
  ·
    repeat' first | exact trivial | exact True.intro | refine ⟨rfl, ?_⟩
  rintro k hk
  try dsimp only at hk ⊢
  refine doC_seq ?_
  refine doC_region ?_
  refine doL_v (opV_lss rfl rfl) rfl rfl rfl ?_
  refine doL_nil ?_
  refine post_then ?_
  refine doC_seq ?_
  refine doC_cond rfl (fun hc40 => ?_) (fun hc40 => ?_)
  ·
    have h2 : k < np := by have := of_decide_eq_true hc40; omega
    obtain ⟨z, hzk⟩ : ∃ z, pts[k]? = some z := ⟨_, List.getElem?_eq_getElem (by omega)⟩
    have hz : (pts.map z3c)[k]? = some (z3c z) := by rw [List.getElem?_map, hzk]; rfl
    obtain ⟨z0, z1, z2⟩ := hb z (List.mem_of_getElem? hzk)
    refine doC_skip ?_
    refine post_then ?_
    refine doC_seq ?_
    refine doC_block ?_
    refine doC_seq ?_
    refine doC_region ?_
    refine doL_v (opV_indexS (e := 50) (holds_base hT) (by kernel_rfl) rfl rfl rfl hz h2) rfl rfl rfl ?_
    refine doL_v (opV_loadSA (vs := z3c z) k 0 (holds_base hT) hz ty50 rfl rfl) rfl rfl rfl ?_
    refine doL_alloc 7 ze50 rfl rfl rfl ?_; intro b7
    refine doL_store 7 ty50 rfl rfl rfl rfl rfl rfl rfl rfl ?_
    refine doL_nil ?_
    refine post_then ?_
    refine doC_seq ?_
    refine doC_region ?_
    refine doL_v (opV_loadA 7 ty50 rfl rfl rfl) rfl rfl rfl ?_
    refine doL_v (opV_move rfl) rfl rfl rfl ?_
    refine doL_nil ?_
    refine post_then ?_
    refine doC_block ?_
    refine doC_rounds 4 ?_
    refine doR_succ ?_
    refine doC_seq ?_
    refine doC_region ?_
    refine doL_v (opV_lss rfl rfl) rfl rfl rfl ?_
    refine doL_nil ?_
    refine post_then ?_
    refine doC_seq ?_
    refine doC_cond_t rfl (by decide) ?_
    refine doC_skip ?_
    refine post_then ?_
    refine doC_seq ?_
    refine doC_block ?_
    refine doC_seq ?_
    refine doC_region ?_
    refine doL_v (opV_index rfl rfl (ix3_0)) rfl rfl rfl ?_
    refine doL_v (opV_assign rfl) rfl rfl rfl ?_
    refine doL_nil ?_
    refine post_then ?_
    refine doC_seq ?_
    refine doC_region ?_
    refine doL_v (opV_move rfl) rfl rfl rfl ?_
    refine doL_v (opV_lss rfl rfl) rfl rfl rfl ?_
    refine doL_v (opV_move rfl) rfl rfl rfl ?_
    refine doL_false 49 rfl (by rw [decide_eq_false_iff_not]; omega) ?_
    refine doL_v (opV_move rfl) rfl rfl rfl ?_
    refine doL_v (opV_gtr rfl rfl) rfl rfl rfl ?_
    refine doL_v (opV_pick_f rfl rfl rfl rfl) rfl rfl rfl ?_
    refine doL_nil ?_
    refine post_then ?_
    refine doC_cond_f rfl (by rw [decide_eq_false_iff_not]; omega) ?_
    refine doC_skip ?_
    refine post_block_normal ?_
    refine post_then ?_
    refine doC_region ?_
    refine doL_v (opV_add rfl rfl (by first | exact i64_in ⟨by omega, by omega⟩ | rfl)) rfl rfl rfl ?_
    refine doL_v (opV_move rfl) rfl rfl rfl ?_
    refine doL_nil ?_
    refine post_rounds ?_
    refine doR_succ ?_
    refine doC_seq ?_
    refine doC_region ?_
    refine doL_v (opV_lss rfl rfl) rfl rfl rfl ?_
    refine doL_nil ?_
    refine post_then ?_
    refine doC_seq ?_
    refine doC_cond_t rfl (by decide) ?_
    refine doC_skip ?_
    refine post_then ?_
    refine doC_seq ?_
    refine doC_block ?_
    refine doC_seq ?_
    refine doC_region ?_
    refine doL_v (opV_index rfl rfl (ix3_1)) rfl rfl rfl ?_
    refine doL_v (opV_assign rfl) rfl rfl rfl ?_
    refine doL_nil ?_
    refine post_then ?_
    refine doC_seq ?_
    refine doC_region ?_
    refine doL_v (opV_move rfl) rfl rfl rfl ?_
    refine doL_v (opV_lss rfl rfl) rfl rfl rfl ?_
    refine doL_v (opV_move rfl) rfl rfl rfl ?_
    refine doL_false 49 rfl (by rw [decide_eq_false_iff_not]; omega) ?_
    refine doL_v (opV_move rfl) rfl rfl rfl ?_
    refine doL_v (opV_gtr rfl rfl) rfl rfl rfl ?_
    refine doL_v (opV_pick_f rfl rfl rfl rfl) rfl rfl rfl ?_
    refine doL_nil ?_
    refine post_then ?_
    refine doC_cond_f rfl (by rw [decide_eq_false_iff_not]; omega) ?_
    refine doC_skip ?_
    refine post_block_normal ?_
    refine post_then ?_
    refine doC_region ?_
    refine doL_v (opV_add rfl rfl (by first | exact i64_in ⟨by omega, by omega⟩ | rfl)) rfl rfl rfl ?_
    refine doL_v (opV_move rfl) rfl rfl rfl ?_
    refine doL_nil ?_
    refine post_rounds ?_
    refine doR_succ ?_
    refine doC_seq ?_
    refine doC_region ?_
    refine doL_v (opV_lss rfl rfl) rfl rfl rfl ?_
    refine doL_nil ?_
    refine post_then ?_
    refine doC_seq ?_
    refine doC_cond_t rfl (by decide) ?_
    refine doC_skip ?_
    refine post_then ?_
    refine doC_seq ?_
    refine doC_block ?_
    refine doC_seq ?_
    refine doC_region ?_
    refine doL_v (opV_index rfl rfl (ix3_2)) rfl rfl rfl ?_
    refine doL_v (opV_assign rfl) rfl rfl rfl ?_
    refine doL_nil ?_
    refine post_then ?_
    refine doC_seq ?_
    refine doC_region ?_
    refine doL_v (opV_move rfl) rfl rfl rfl ?_
    refine doL_v (opV_lss rfl rfl) rfl rfl rfl ?_
    refine doL_v (opV_move rfl) rfl rfl rfl ?_
    refine doL_false 49 rfl (by rw [decide_eq_false_iff_not]; omega) ?_
    refine doL_v (opV_move rfl) rfl rfl rfl ?_
    refine doL_v (opV_gtr rfl rfl) rfl rfl rfl ?_
    refine doL_v (opV_pick_f rfl rfl rfl rfl) rfl rfl rfl ?_
    refine doL_nil ?_
    refine post_then ?_
    refine doC_cond_f rfl (by rw [decide_eq_false_iff_not]; omega) ?_
    refine doC_skip ?_
    refine post_block_normal ?_
    refine post_then ?_
    refine doC_region ?_
    refine doL_v (opV_add rfl rfl (by first | exact i64_in ⟨by omega, by omega⟩ | rfl)) rfl rfl rfl ?_
    refine doL_v (opV_move rfl) rfl rfl rfl ?_
    refine doL_nil ?_
    refine post_rounds ?_
    refine doR_succ ?_
    refine doC_seq ?_
    refine doC_region ?_
    refine doL_v (opV_lss rfl rfl) rfl rfl rfl ?_
    refine doL_nil ?_
    refine post_then ?_
    refine doC_seq ?_
    refine doC_cond_f rfl (by decide) ?_
    refine doC_exit ?_
    refine post_then_exit ?_
    refine post_then_exit ?_
    refine post_block_exit ?_
    refine post_block_normal ?_
    refine post_then ?_
    refine doC_region ?_
    refine doL_v (opV_add rfl rfl (inc_nat (by omega))) rfl rfl rfl ?_
    refine doL_v (opV_move rfl) rfl rfl rfl ?_
    refine doL_nil ?_
    refine post_again (k + 1) (by show k + 1 ≤ np; omega) (by show np - (k + 1) < np - k; omega) rfl ?_ ?_ rfl
    repeat' first | exact trivial | exact True.intro | refine ⟨rfl, ?_⟩
  ·
    refine doC_exit ?_
    refine post_then_exit ?_
    refine post_then_exit ?_
    refine post_block_exit ?_
    refine post_then ?_
    refine doC_seq ?_
    refine doC_region ?_
    refine doL_v (opV_assign rfl) rfl rfl rfl ?_
    refine doL_nil ?_
    refine post_then ?_
    refine doC_ret ?_
    refine post_rets (rs := [.tmp 4]) rfl (resC (resIs_tmp rfl) (resN)) (congrArg (vI) (?_ : _ = (0 : Int)))
    rfl
theorem sCheck  (aj am asp ak : Option Addr) (cj nm cm csp ck n ns nk : Nat) (js : List J) (l : List Ms) (ss : List Sp) (ds : List Ad) (rk : List (List Value)) (hn : 1 ≤ n ∧ n ≤ 10) (hm : nm ≤ 32) (hjn : js.length = n) (hln : l.length = nm) (hsn : ss.length = ns) (hdn : ds.length = ns) (hns : ns ≤ 24) (hnk : nk ≤ 64) (hrk : rk.length = nk) (hJ : ∀ (i : Nat) (j : J), js[i]? = some j → JOK js i j) (hv : ∀ m ∈ l, MB n m) (hsp : ∀ s ∈ ss, SpOK n s) (hk2 : ∀ r ∈ rk, ∃ a b : Int, r = [.int .i64 a, .int .i64 b] ∧ (-1 ≤ a ∧ a < n) ∧ (-1 ≤ b ∧ b < n)) (w : World) (hS : SlcIs 12 aj (js.map jc) w) (hM : SlcIs 5 am (l.map mc) w) (hSp : SlcIs 3 asp (spRows ss ds) w) (hPt : PtsF ss ds w) (hK : SlcIs 2 ak rk w) : Calls Tryz.prog 28 [.agg #[.slice aj n cj, .slice am nm cm, .slice asp ns csp, .slice ak nk ck]].toArray w (Rets (vI ((0 : Int))) (w)) := by
  refine calls_of_doC (n := 57) Tryz.func28 rfl rfl rfl ?_
  refine doC_seq ?_
  refine doC_region ?_
  refine doL_box 1 rfl rfl rfl rfl ?_; intro b1
  refine doL_v (opV_assign rfl) rfl rfl rfl ?_
  refine doL_nil ?_
  refine post_then ?_
  refine doC_seq ?_
  refine doC_seq ?_
  refine doC_region ?_
  refine doL_v (opV_fieldAddr fa30_0 rfl) rfl rfl rfl ?_
  refine doL_v (opV_loadA 1 ty26 rfl rfl rfl) rfl rfl rfl ?_
  refine doL_vg (F := vI) (opV_call en45 rfl (fun w' k => cCheck aj am cj nm cm n js l hn hm hjn hln hJ hv w' (slc_grow hS k.grow) (slc_grow hM k.grow))) rfl rfl rfl ?_; intro r11 hr11
  refine doL_v (opV_assign rfl) rfl rfl rfl ?_
  refine doL_nil ?_
  refine post_then ?_
  refine doC_seq ?_
  refine doC_region ?_
  refine doL_v (opV_move rfl) rfl rfl rfl ?_
  refine doL_v (opV_neq rfl rfl) rfl rfl rfl ?_
  refine doL_nil ?_
  refine post_then ?_
  refine doC_cond_f rfl (by rw [hr11]; rfl) ?_
  refine doC_skip ?_
  refine post_then ?_
  refine doC_seq ?_
  refine doC_seq ?_
  refine doC_region ?_
  refine doL_v (opV_fieldAddr fa30_1 rfl) rfl rfl rfl ?_
  refine doL_v (opV_load1 1 ty27 rfl rfl rfl) rfl rfl rfl ?_
  refine doL_v (opV_len_slice sl27 rfl) rfl rfl rfl ?_
  refine doL_v (opV_gtr rfl rfl) rfl rfl rfl ?_
  refine doL_nil ?_
  refine post_then ?_
  refine doC_cond_f rfl (by rw [decide_eq_false_iff_not]; omega) ?_
  refine doC_skip ?_
  refine post_then ?_
  refine doC_seq ?_
  refine doC_seq ?_
  refine doC_region ?_
  refine doL_v (opV_fieldAddr fa30_1 rfl) rfl rfl rfl ?_
  refine doL_v (opV_load1 1 ty27 rfl rfl rfl) rfl rfl rfl ?_
  refine doL_v (opV_len_slice sl27 rfl) rfl rfl rfl ?_
  refine doL_v (opV_move rfl) rfl rfl rfl ?_
  refine doL_nil ?_
  refine post_then ?_
  refine doC_block ?_
  refine doC_loopK [1, 20, 21] [1] (α := Nat) (fun x => ns - x) (fun x => x ≤ ns) (fun _ => ⟨w, []⟩) (fun x => [(22, .int .i64 (x : Int))]) (fun _ => []) 0 rfl rfl ?_ ?_ ?_ ?_ rfl ?_
  ·
    exact Nat.zero_le _
  ·
    exact rfl
  ·
    repeat' first | exact trivial | exact True.intro | refine ⟨rfl, ?_⟩
  ·
    repeat' first | exact trivial | exact True.intro | refine ⟨rfl, ?_⟩
  rintro k hk
  try dsimp only at hk ⊢
  refine doC_seq ?_
  refine doC_region ?_
  refine doL_v (opV_lss rfl rfl) rfl rfl rfl ?_
  refine doL_nil ?_
  refine post_then ?_
  refine doC_seq ?_
  refine doC_cond rfl (fun hc23 => ?_) (fun hc23 => ?_)
  ·
    have h2 : k < ns := by have := of_decide_eq_true hc23; omega
    obtain ⟨s, hsk⟩ : ∃ s, ss[k]? = some s := ⟨_, List.getElem?_eq_getElem (by omega)⟩
    obtain ⟨d, hdk⟩ : ∃ d, ds[k]? = some d := ⟨_, List.getElem?_eq_getElem (by omega)⟩
    have hs := spRows_get ss ds k s d hsk hdk
    have hpt := PtsF_get ss ds k s d w hsk hdk hPt
    obtain ⟨o1, o2, o3, o4⟩ := hsp s (List.mem_of_getElem? hsk)
    refine doC_skip ?_
    refine post_then ?_
    refine doC_seq ?_
    refine doC_block ?_
    refine doC_seq ?_
    refine doC_region ?_
    refine doL_v (opV_indexS (e := 41) (holds_base hSp) (by kernel_rfl) rfl rfl rfl hs h2) rfl rfl rfl ?_
    refine doL_v (opV_loadSA (vs := spc s d) k 0 (holds_base hSp) hs ty41 rfl rfl) rfl rfl rfl ?_
    refine doL_alloc 5 ze41 rfl rfl rfl ?_; intro b5
    refine doL_store 5 ty41 rfl rfl rfl rfl rfl rfl rfl rfl ?_
    refine doL_nil ?_
    refine post_then ?_
    refine doC_seq ?_
    refine doC_region ?_
    refine doL_v (opV_loadA 1 ty30 rfl rfl rfl) rfl rfl rfl ?_
    refine doL_v (opV_loadA 5 ty41 rfl rfl rfl) rfl rfl rfl ?_
    refine doL_vg (F := vI) (opV_call en52 rfl (fun w' k => sCheckShape aj am asp ak cj nm cm csp ck n ns nk s.link s.radius d.1 s.pts.length d.2 s.pts o1 rfl o2 o3 o4 w' (slc_grow hpt k.grow))) rfl rfl rfl ?_; intro r28 hr28
    refine doL_v (opV_assign rfl) rfl rfl rfl ?_
    refine doL_nil ?_
    refine post_then ?_
    refine doC_seq ?_
    refine doC_region ?_
    refine doL_v (opV_move rfl) rfl rfl rfl ?_
    refine doL_v (opV_neq rfl rfl) rfl rfl rfl ?_
    refine doL_nil ?_
    refine post_then ?_
    refine doC_cond_f rfl (by rw [hr28]; rfl) ?_
    refine doC_skip ?_
    refine post_block_normal ?_
    refine post_then ?_
    refine doC_region ?_
    refine doL_v (opV_add rfl rfl (inc_nat (by omega))) rfl rfl rfl ?_
    refine doL_v (opV_move rfl) rfl rfl rfl ?_
    refine doL_nil ?_
    refine post_again (k + 1) (by show k + 1 ≤ ns; omega) (by show ns - (k + 1) < ns - k; omega) rfl ?_ ?_ rfl
    repeat' first | exact trivial | exact True.intro | refine ⟨rfl, ?_⟩
  ·
    refine doC_exit ?_
    refine post_then_exit ?_
    refine post_then_exit ?_
    refine post_block_exit ?_
    refine post_then ?_
    refine doC_seq ?_
    refine doC_seq ?_
    refine doC_region ?_
    refine doL_v (opV_fieldAddr fa30_2 rfl) rfl rfl rfl ?_
    refine doL_v (opV_load1 1 ty28 rfl rfl rfl) rfl rfl rfl ?_
    refine doL_v (opV_len_slice sl28 rfl) rfl rfl rfl ?_
    refine doL_v (opV_gtr rfl rfl) rfl rfl rfl ?_
    refine doL_nil ?_
    refine post_then ?_
    refine doC_cond_f rfl (by rw [decide_eq_false_iff_not]; omega) ?_
    refine doC_skip ?_
    refine post_then ?_
    refine doC_seq ?_
    refine doC_seq ?_
    refine doC_region ?_
    refine doL_v (opV_fieldAddr fa30_2 rfl) rfl rfl rfl ?_
    refine doL_v (opV_load1 1 ty28 rfl rfl rfl) rfl rfl rfl ?_
    refine doL_v (opV_len_slice sl28 rfl) rfl rfl rfl ?_
    refine doL_v (opV_move rfl) rfl rfl rfl ?_
    refine doL_nil ?_
    refine post_then ?_
    refine doC_block ?_
    refine doC_loopK [1, 38, 39] [1] (α := Nat) (fun x => nk - x) (fun x => x ≤ nk) (fun _ => ⟨w, []⟩) (fun x => [(40, .int .i64 (x : Int))]) (fun _ => []) 0 rfl rfl ?_ ?_ ?_ ?_ rfl ?_
    ·
      exact Nat.zero_le _
    ·
      exact rfl
    ·
      repeat' first | exact trivial | exact True.intro | refine ⟨rfl, ?_⟩
    ·
      repeat' first | exact trivial | exact True.intro | refine ⟨rfl, ?_⟩
    rintro i hi
    try dsimp only at hi ⊢
    refine doC_seq ?_
    refine doC_region ?_
    refine doL_v (opV_lss rfl rfl) rfl rfl rfl ?_
    refine doL_nil ?_
    refine post_then ?_
    refine doC_seq ?_
    refine doC_cond rfl (fun hc41 => ?_) (fun hc41 => ?_)
    ·
      have h3 : i < nk := by have := of_decide_eq_true hc41; omega
      obtain ⟨r, hrk2⟩ : ∃ r, rk[i]? = some r := ⟨_, List.getElem?_eq_getElem (by omega)⟩
      obtain ⟨ka, kb, rfl, hka, hkb⟩ := hk2 r (List.mem_of_getElem? hrk2)
      refine doC_skip ?_
      refine post_then ?_
      refine doC_seq ?_
      refine doC_block ?_
      refine doC_seq ?_
      refine doC_region ?_
      refine doL_v (opV_indexS (e := 76) (holds_base hK) (by kernel_rfl) rfl rfl rfl hrk2 h3) rfl rfl rfl ?_
      refine doL_v (opV_loadSA (vs := [.int .i64 ka, .int .i64 kb]) i 0 (holds_base hK) hrk2 ty76 rfl rfl) rfl rfl rfl ?_
      refine doL_alloc 8 ze76 rfl rfl rfl ?_; intro b8
      refine doL_store 8 ty76 rfl rfl rfl rfl rfl rfl rfl rfl ?_
      refine doL_nil ?_
      refine post_then ?_
      refine doC_seq ?_
      refine doC_region ?_
      refine doL_v (opV_loadA 1 ty30 rfl rfl rfl) rfl rfl rfl ?_
      refine doL_v (opV_fieldAddr fa76_0 rfl) rfl rfl rfl ?_
      refine doL_v (opV_load1 8 ty3 rfl rfl rfl) rfl rfl rfl ?_
      refine doL_vg (F := vB) (opV_call en53 rfl (fun w _ => sIsLink _ _ _ _ _ _ _ _ _ _ _ _ _ hka w)) rfl rfl rfl ?_; intro r47 hr47
      refine doL_v (opV_not rfl) rfl rfl rfl ?_
      refine doL_v (opV_move rfl) rfl rfl rfl ?_
      refine doL_false 49 rfl (by rw [hr47]; rfl) ?_
      refine doL_v (opV_loadA 1 ty30 rfl rfl rfl) rfl rfl rfl ?_
      refine doL_v (opV_fieldAddr fa76_1 rfl) rfl rfl rfl ?_
      refine doL_v (opV_load1 8 ty3 rfl rfl rfl) rfl rfl rfl ?_
      refine doL_vg (F := vB) (opV_call en53 rfl (fun w _ => sIsLink _ _ _ _ _ _ _ _ _ _ _ _ _ hkb w)) rfl rfl rfl ?_; intro r53 hr53
      refine doL_v (opV_not rfl) rfl rfl rfl ?_
      refine doL_v (opV_pick_f rfl rfl rfl rfl) rfl rfl rfl ?_
      refine doL_nil ?_
      refine post_then ?_
      refine doC_cond_f rfl (by rw [hr53]; rfl) ?_
      refine doC_skip ?_
      refine post_block_normal ?_
      refine post_then ?_
      refine doC_region ?_
      refine doL_v (opV_add rfl rfl (inc_nat (by omega))) rfl rfl rfl ?_
      refine doL_v (opV_move rfl) rfl rfl rfl ?_
      refine doL_nil ?_
      refine post_again (i + 1) (by show i + 1 ≤ nk; omega) (by show nk - (i + 1) < nk - i; omega) rfl ?_ ?_ rfl
      repeat' first | exact trivial | exact True.intro | refine ⟨rfl, ?_⟩
    ·
      refine doC_exit ?_
      refine post_then_exit ?_
      refine post_then_exit ?_
      refine post_block_exit ?_
      refine post_then ?_
      refine doC_seq ?_
      refine doC_region ?_
      refine doL_v (opV_assign rfl) rfl rfl rfl ?_
      refine doL_nil ?_
      refine post_then ?_
      refine doC_ret ?_
      refine post_rets (rs := [.tmp 2]) rfl (resC (resIs_tmp rfl) (resN)) (congrArg (vI) (?_ : _ = (0 : Int)))
      rfl
theorem shPlace  (lk rad : Int) (ap : Option Addr) (np cp : Nat) (pts : List Z3) (p : Po) (hnp : pts.length = np) (hr : 1 ≤ rad ∧ rad ≤ 1048576) (hl : 1 ≤ np ∧ np ≤ 8) (hb : ∀ z ∈ pts, ZB z) (w : World) (hT : SlcIs 3 ap (pts.map z3c) w) : Calls Tryz.prog 31 [.agg #[.int .i64 lk, .int .i64 rad, .slice ap np cp], .agg #[.int .i64 p.r.x.x.lo, .int .i64 p.r.x.x.hi, .int .i64 p.r.x.y.lo, .int .i64 p.r.x.y.hi, .int .i64 p.r.x.z.lo, .int .i64 p.r.x.z.hi, .int .i64 p.r.y.x.lo, .int .i64 p.r.y.x.hi, .int .i64 p.r.y.y.lo, .int .i64 p.r.y.y.hi, .int .i64 p.r.y.z.lo, .int .i64 p.r.y.z.hi, .int .i64 p.r.z.x.lo, .int .i64 p.r.z.x.hi, .int .i64 p.r.z.y.lo, .int .i64 p.r.z.y.hi, .int .i64 p.r.z.z.lo, .int .i64 p.r.z.z.hi, .int .i64 p.t.x.lo, .int .i64 p.t.x.hi, .int .i64 p.t.y.lo, .int .i64 p.t.y.hi, .int .i64 p.t.z.lo, .int .i64 p.t.z.hi]].toArray w (RetsF (X := Nat) (fun _ => True) (fun b => .slice (some ⟨b, 0, none⟩) np np) (fun b => SlcIs 6 (some ⟨b, 0, none⟩) ((plR p pts).map vc)) w) := by
  refine calls_of_doC (n := 32) Tryz.func31 rfl rfl rfl ?_
  refine doC_seq ?_
  refine doC_region ?_
  refine doL_box 2 rfl rfl rfl rfl ?_; intro b2
  refine doL_box 3 rfl rfl rfl rfl ?_; intro b3
  refine doL_v (opV_assign rfl) rfl rfl rfl ?_
  refine doL_nil ?_
  refine post_then ?_
  refine doC_seq ?_
  refine doC_seq ?_
  refine doC_region ?_
  refine doL_v (opV_loadA 2 ty41 rfl rfl rfl) rfl rfl rfl ?_
  refine doL_vg (F := vB) (opV_call en57 rfl (fun w' k => shCheck lk rad ap np cp pts hnp hr hl hb w' (slc_grow hT k.grow))) rfl rfl rfl ?_; intro r9 hr9
  refine doL_v (opV_not rfl) rfl rfl rfl ?_
  refine doL_nil ?_
  refine post_then ?_
  refine doC_cond_f rfl (by rw [hr9]; rfl) ?_
  refine doC_skip ?_
  refine post_then ?_
  refine doC_seq ?_
  refine doC_region ?_
  refine doL_v (opV_fieldAddr fa41_2 rfl) rfl rfl rfl ?_
  refine doL_v (opV_load1 2 ty39 rfl rfl rfl) rfl rfl rfl ?_
  refine doL_v (opV_len_slice sl39 rfl) rfl rfl rfl ?_
  refine doL_make 14 (makeB_of app42 ze46) rfl (by omega) (by omega) rfl rfl ?_; intro b14
  refine doL_v (opV_assign rfl) rfl rfl rfl ?_
  refine doL_nil ?_
  refine post_then ?_
  refine doC_seq ?_
  refine doC_seq ?_
  refine doC_region ?_
  refine doL_v (opV_fieldAddr fa41_2 rfl) rfl rfl rfl ?_
  refine doL_v (opV_load1 2 ty39 rfl rfl rfl) rfl rfl rfl ?_
  refine doL_v (opV_len_slice sl39 rfl) rfl rfl rfl ?_
  refine doL_v (opV_move rfl) rfl rfl rfl ?_
  refine doL_nil ?_
  refine post_then ?_
  refine doC_block ?_
  refine doC_loopK [3, 5, 16, 17] [3] (α := Nat × List V3) (fun x => np - x.1) (fun x => x.1 ≤ np ∧ plR p (pts.take x.1) = x.2 ∧ x.2.length = x.1) (fun x => ⟨w, [(14, (· = b14), RowsF b14 6 46 (plF x.2 (np - x.1)))]⟩) (fun x => [(18, .int .i64 (x.1 : Int))]) (fun _ => []) (0, []) rfl rfl ?_ ?_ ?_ ?_ rfl ?_
  ·
    exact ⟨Nat.zero_le _, rfl, rfl⟩
  ·
    exact rfl
  ·
    repeat' first | exact trivial | exact True.intro | refine ⟨rfl, ?_⟩
  ·
    repeat' first | exact trivial | exact True.intro | refine ⟨rfl, ?_⟩
  rintro ⟨k, vs⟩ ⟨hk, hvs, hlen⟩
  dsimp only at hk hvs hlen ⊢
  subst hlen
  refine doC_seq ?_
  refine doC_region ?_
  refine doL_v (opV_lss rfl rfl) rfl rfl rfl ?_
  refine doL_nil ?_
  refine post_then ?_
  refine doC_seq ?_
  refine doC_cond rfl (fun hc19 => ?_) (fun hc19 => ?_)
  ·
    have h2 : vs.length < np := by have := of_decide_eq_true hc19; omega
    obtain ⟨z, hzk⟩ : ∃ z, pts[vs.length]? = some z := ⟨_, List.getElem?_eq_getElem (by omega)⟩
    have hz : (pts.map z3c)[vs.length]? = some (z3c z) := by rw [List.getElem?_map, hzk]; rfl
    obtain ⟨z0, z1, z2⟩ := hb z (List.mem_of_getElem? hzk)
    obtain ⟨m, hm⟩ : ∃ m, np - vs.length = m + 1 := ⟨np - vs.length - 1, by omega⟩
    rw [hm]
    refine doC_skip ?_
    refine post_then ?_
    refine doC_seq ?_
    refine doC_block ?_
    refine doC_seq ?_
    refine doC_region ?_
    refine doL_v (opV_move rfl) rfl rfl rfl ?_
    refine doL_v (opV_indexS (e := 50) (holds_base hT) (by kernel_rfl) rfl rfl rfl hz h2) rfl rfl rfl ?_
    refine doL_v (opV_loadSA (vs := z3c z) vs.length 0 (holds_base hT) hz ty50 rfl rfl) rfl rfl rfl ?_
    refine doL_alloc 7 ze50 rfl rfl rfl ?_; intro b7
    refine doL_v (opV_assign rfl) rfl rfl rfl ?_
    refine doL_store 7 ty50 rfl rfl rfl rfl rfl rfl rfl rfl ?_
    refine doL_nil ?_
    refine post_then ?_
    refine doC_drawn 6 mo (by kernel_rfl) ?_
    simp only [List.take_succ_cons, List.take_zero, List.drop_succ_cons, List.drop_zero]
    refine doG_v (opV_move rfl) rfl rfl rfl ?_
    refine doG_v (opV_move rfl) rfl rfl rfl ?_
    refine doG_v (opV_loadA 3 ty66 rfl rfl rfl) rfl rfl rfl ?_
    refine doG_v (opV_loadA 7 ty50 rfl rfl rfl) rfl rfl rfl ?_
    refine doG_vg (F := v3) (opV_call en59 rfl (fun w _ => mPoint _ _ _  w)) rfl rfl rfl ?_; intro r27 hr27
    refine doG_vg (F := v3) (opV_call en58 rfl (fun w _ => pApply _ _ _ _ _ _ _ _ _ _ _ _ _ _ _ _ _ _ _ _ _ _ _ _ _ _ _ _ _ _  w)) rfl rfl rfl ?_; intro r28 hr28
    refine doG_nil ?_
    refine tail_nil ?_
    refine doL_v (opV_indexS (e := 46) ((holds_r (id := 14) rfl).imp rowsF_slc) (by kernel_rfl) rfl rfl rfl plF_me h2) rfl rfl rfl ?_
    refine doL_storeRow (vs := vc r28) (j := vs.length) 14 ty46 rfl rfl rfl (by simp [plF]) rfl rfl rfl rfl ?_; intro R29 hR29
    obtain rfl := Option.some.inj hR29
    rw [plF_set]
    refine doL_nil ?_
    refine post_block_normal ?_
    refine post_then ?_
    refine doC_region ?_
    refine doL_v (opV_add rfl rfl (inc_nat (by omega))) rfl rfl rfl ?_
    refine doL_v (opV_move rfl) rfl rfl rfl ?_
    refine doL_nil ?_
    refine post_again (vs.length + 1, vs ++ [r28]) (by refine ⟨?_, ?_, ?_⟩ <;> dsimp only; omega; rw [plR_take hzk, hvs, hr28, hr27]; simp) (by show np - (vs.length + 1) < np - vs.length; omega) (by dsimp only; rw [show np - (vs.length + 1) = m by omega]; try rfl) ?_ ?_ rfl
    repeat' first | exact trivial | exact True.intro | refine ⟨rfl, ?_⟩
  ·
    have h2 : vs.length = np := by have := of_decide_eq_false hc19; omega
    refine doC_exit ?_
    refine post_then_exit ?_
    refine post_then_exit ?_
    refine post_block_exit ?_
    refine post_then ?_
    refine doC_seq ?_
    refine doC_region ?_
    refine doL_v (opV_move rfl) rfl rfl rfl ?_
    refine doL_v (opV_assign rfl) rfl rfl rfl ?_
    refine doL_nil ?_
    refine post_then ?_
    refine doC_ret ?_
    refine post_ret (rs := [.tmp 4]) rfl (resC (resIs_tmp rfl) (resN)) rfl ?_
    intro w2 k2
    obtain ⟨_, q2, q3⟩ := k2.facts _ List.mem_cons_self
    refine ⟨b14, trivial, rfl, k2.grow, ownD _, slc_dep _ _ _, fun z hz => ?_, ?_⟩
    · obtain ⟨ad, h1, h2⟩ := hz
      cases h1
      subst h2
      exact ⟨(q2 _ rfl).1, (q2 _ rfl).2.1⟩
    · have q4 := rowsF_slc _ q3
      rw [List.take_of_length_le (by omega)] at hvs
      rw [hvs]
      simpa [plF, h2] using q4
end Go.Proofs.YtonampcmhhhffaaGreat

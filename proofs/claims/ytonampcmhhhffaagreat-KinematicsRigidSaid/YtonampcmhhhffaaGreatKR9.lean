/- Part 9 of the texts behind the last one: rules and contracts. No condition. -/
import Derived.Test.YtonampcmhhhffaaGreatKR8
namespace Go.Proofs.YtonampcmhhhffaaGreat
open Go.Sx
theorem ty50 : tyB Tryz.prog 50 true 3 = true := by kernel_rfl
theorem sl39 : slcB Tryz.prog 39 50 3 = true := by kernel_rfl
theorem ze50 : zeroIs Tryz.prog 50 (.agg #[.int .i64 0, .int .i64 0, .int .i64 0]) := by unfold zeroIs; kernel_rfl
theorem en26 : Enters Tryz.prog 26 := enters_of Tryz.func26 (by kernel_rfl) (by kernel_rfl)
theorem app39 : appB Tryz.prog 39 50 3 24 = true := by kernel_rfl
theorem dec_rem {n k : Nat} (hn : n ≤ 1000) (h : k < n) : IntKind.i64.wrap (((n - k : Nat) : Int) - 1) = ((n - (k + 1) : Nat) : Int) := by
  refine (i64_in ?_).trans ?_ <;> omega
theorem mkPoints {b : Nat} {sl : Value} {L : List Int} {i : Nat} (ca0 ca1 ca2 : Int) (hc : -1000000000 ≤ ca0 ∧ ca0 ≤ 1000000000 ∧ -1000000000 ≤ ca1 ∧ ca1 ≤ 1000000000 ∧ -1000000000 ≤ ca2 ∧ ca2 ≤ 1000000000) (w : World) (hs : Src w b sl L i) : Calls Tryz.prog 25 [.pointer (some ⟨b, 0, none⟩), .agg #[.int .i64 ca0, .int .i64 ca1, .int .i64 ca2]].toArray w (RetsF (X := Option Addr × Nat) (fun _ => True) (fun x => .slice x.1 (ptsN L i + 1) x.2) (fun x => SlcIs 3 x.1 ((ptsOf L i ⟨ca0, ca1, ca2⟩ (ptsN L i)).map z3c)) (srcW w b sl L (i + 1 + 3 * ptsN L i))) := by
  refine calls_src (n := 38) hs Tryz.func25 rfl rfl rfl ?_
  refine doC_seq ?_
  refine doC_region ?_
  refine doL_box 3 rfl rfl rfl rfl ?_; intro b3
  refine doL_v (opV_assign rfl) rfl rfl rfl ?_
  refine doL_nil ?_
  refine post_then ?_
  refine doC_seq ?_
  refine doC_region ?_
  refine doL_v (opV_loadA 3 ty50 rfl rfl rfl) rfl rfl rfl ?_
  refine doL_bslice 8 sl39 ze50 rfl rfl rfl rfl rfl rfl rfl rfl ?_; intro b8
  refine doL_v (opV_assign rfl) rfl rfl rfl ?_
  refine doL_nil ?_
  refine post_then ?_
  refine doC_seq ?_
  refine doC_seq ?_
  refine doC_toOwnA 8 1 3 rfl rfl rfl rfl ?_
  refine doC_region ?_
  refine doL_v (opV_move rfl) rfl rfl rfl ?_
  refine doL_srcA (F := vI) hs en24 rfl (fun w' h => srcNext _ (by first | omega | assumption | (unfold In64; omega) | decide) w' h) rfl rfl ?_; intro r10 hr10
  have br10 := srcR_b hr10 (by first | decide | omega)
  obtain rfl : r10 = ((ptsN L i : Nat) : Int) := by rw [hr10]; unfold ptsN; have := srcR_bnd L i (k := 4) (by decide); omega
  refine doL_v (opV_assign rfl) rfl rfl rfl ?_
  refine doL_nil ?_
  refine post_then ?_
  refine doC_block ?_
  refine doC_loopK [0, 3] [3] (α := Nat × Option Addr × Nat) (fun x => ptsN L i - x.1) (fun x => x.1 ≤ ptsN L i) (fun x => srcB ⟨w, [(8, ownD x.2.1, OwnF 0 50 3 x.2.1 x.2.2 (x.1 + 1) (ptsC L i ⟨ca0, ca1, ca2⟩ x.1))]⟩ b sl L (i + 1 + 3 * x.1)) (fun x => [(5, .slice x.2.1 (x.1 + 1) x.2.2), (6, .int .i64 ((ptsN L i - x.1 : Nat) : Int))]) (fun _ => []) (0, some ⟨b8, 0, none⟩, 1) rfl rfl ?_ ?_ ?_ ?_ rfl ?_
  ·
    exact Nat.zero_le _
  ·
    exact rfl
  ·
    repeat' first | exact trivial | exact True.intro | refine ⟨rfl, ?_⟩
  ·
    repeat' first | exact trivial | exact True.intro | refine ⟨rfl, ?_⟩
  rintro ⟨k, a, cap⟩ hk
  dsimp only at hk ⊢
  have hb3 := ptsN_b L i
  refine doC_seq ?_
  refine doC_seq ?_
  refine doC_region ?_
  refine doL_v (opV_move rfl) rfl rfl rfl ?_
  refine doL_v (opV_gtr rfl rfl) rfl rfl rfl ?_
  refine doL_nil ?_
  refine post_then ?_
  refine doC_cond rfl (fun hc12 => ?_) (fun hc12 => ?_)
  ·
    have h2 : k < ptsN L i := by have := of_decide_eq_true hc12; omega
    refine doC_skip ?_
    refine post_then ?_
    refine doC_seq ?_
    refine doC_block ?_
    refine doC_srcA 21 [4, 10, 16] hs mo (by kernel_rfl) ?_
    simp only [List.take_succ_cons, List.take_zero, List.drop_succ_cons, List.drop_zero]
    refine doM_v (fun _ => opV_move rfl) rfl rfl rfl rfl ?_
    refine doM_v (fun _ => opV_indexAddr ar50 rfl rfl (by first | decide | omega) (by first | decide | omega)) rfl rfl rfl rfl ?_
    refine doM_v (fun _ => opV_load1 3 ty2 rfl rfl rfl) rfl rfl rfl rfl ?_
    refine doM_v (fun _ => opV_move rfl) rfl rfl rfl rfl ?_
    refine doM_srcA (F := vI) hs en26 rfl (fun w' h => srcSigned _ (by first | omega | assumption | (unfold In64; omega) | decide) w' h) rfl rfl rfl ?_; intro r19 hr19
    have br19 := srcS_b hr19 (by first | decide | omega)
    refine doM_v (fun _ => opV_mul rfl rfl (by first | exact i64_in ⟨by omega, by omega⟩ | rfl)) rfl rfl rfl rfl ?_
    refine doM_v (fun _ => opV_add rfl rfl (by first | exact i64_in ⟨by omega, by omega⟩ | rfl)) rfl rfl rfl rfl ?_
    refine doM_v (fun _ => opV_indexAddr ar50 rfl rfl (by first | decide | omega) (by first | decide | omega)) rfl rfl rfl rfl ?_
    refine doM_v (fun _ => opV_load1 3 ty2 rfl rfl rfl) rfl rfl rfl rfl ?_
    refine doM_v (fun _ => opV_move rfl) rfl rfl rfl rfl ?_
    refine doM_srcA (F := vI) hs en26 rfl (fun w' h => srcSigned _ (by first | omega | assumption | (unfold In64; omega) | decide) w' h) rfl rfl rfl ?_; intro r25 hr25
    have br25 := srcS_b hr25 (by first | decide | omega)
    refine doM_v (fun _ => opV_mul rfl rfl (by first | exact i64_in ⟨by omega, by omega⟩ | rfl)) rfl rfl rfl rfl ?_
    refine doM_v (fun _ => opV_add rfl rfl (by first | exact i64_in ⟨by omega, by omega⟩ | rfl)) rfl rfl rfl rfl ?_
    refine doM_v (fun _ => opV_indexAddr ar50 rfl rfl (by first | decide | omega) (by first | decide | omega)) rfl rfl rfl rfl ?_
    refine doM_v (fun _ => opV_load1 3 ty2 rfl rfl rfl) rfl rfl rfl rfl ?_
    refine doM_v (fun _ => opV_move rfl) rfl rfl rfl rfl ?_
    refine doM_srcA (F := vI) hs en26 rfl (fun w' h => srcSigned _ (by first | omega | assumption | (unfold In64; omega) | decide) w' h) rfl rfl rfl ?_; intro r31 hr31
    have br31 := srcS_b hr31 (by first | decide | omega)
    refine doM_v (fun _ => opV_mul rfl rfl (by first | exact i64_in ⟨by omega, by omega⟩ | rfl)) rfl rfl rfl rfl ?_
    refine doM_v (fun _ => opV_add rfl rfl (by first | exact i64_in ⟨by omega, by omega⟩ | rfl)) rfl rfl rfl rfl ?_
    refine doM_v (fun _ => opV_build la50 rfl rfl) rfl rfl rfl rfl ?_
    refine doM_bslice (famA hs _) sl39 ze50 rfl rfl rfl rfl rfl rfl rfl rfl rfl rfl ?_
    refine doM_nil ?_
    refine tail_row ?_; intro bb35
    refine tail_appendA 8 app39 rfl rfl rfl rfl rfl rfl (by omega) (by omega) rfl rfl ?_; intro a36 c36 R36 hR36
    obtain rfl := Option.some.inj hR36
    refine doL_v (opV_assign rfl) rfl rfl rfl ?_
    refine doL_nil ?_
    refine post_block_normal ?_
    refine post_then ?_
    refine doC_region ?_
    refine doL_v (opV_move rfl) rfl rfl rfl ?_
    refine doL_v (opV_sub rfl rfl (dec_rem (by omega) h2)) rfl rfl rfl ?_
    refine doL_v (opV_assign rfl) rfl rfl rfl ?_
    refine doL_nil ?_
    refine post_again (k + 1, a36, c36) (by show k + 1 ≤ _; omega) (by show ptsN L i - (k + 1) < ptsN L i - k; omega) (by dsimp only; rw [ptsC_succ, hr19, hr25, hr31]; rfl) ?_ ?_ rfl
    repeat' first | exact trivial | exact True.intro | refine ⟨rfl, ?_⟩
  ·
    obtain rfl : k = ptsN L i := by have := of_decide_eq_false hc12; omega
    refine doC_exit ?_
    refine post_then_exit ?_
    refine post_then_exit ?_
    refine post_block_exit ?_
    refine post_then ?_
    refine doC_seq ?_
    refine doC_region ?_
    refine doL_v (opV_move rfl) rfl rfl rfl ?_
    refine doL_v (opV_assign rfl) rfl rfl rfl ?_
    refine doL_nil ?_
    refine post_then ?_
    refine doC_ret ?_
    refine post_ret (rs := [.tmp 4]) rfl (resC (resIs_tmp rfl) (resN)) rfl ?_
    intro w2 k2
    obtain ⟨_, q2, q3⟩ := k2.facts _ List.mem_cons_self
    exact ⟨(a, cap), trivial, rfl, k2.grow, ownD a, slc_dep _ _ _, fun q hq => ⟨(q2 q hq).1, (q2 q hq).2.1⟩, pts_slc q3⟩
end Go.Proofs.YtonampcmhhhffaaGreat
namespace Go.Proofs.YtonampcmhhhffaaGreat
open Go.Sx
theorem ze84 : zeroIs Tryz.prog 84 (.agg #[.string ByteArray.empty, .int .i64 0, .int .i64 0, .int .i64 0, .int .i64 0, .int .i64 0, .int .i64 0, .int .i64 0, .int .i64 0, .int .i64 0, .int .i64 0, .int .i64 0]) := by unfold zeroIs; kernel_rfl
theorem en79 : Enters Tryz.prog 79 := enters_of Tryz.func79 (by kernel_rfl) (by kernel_rfl)
theorem la84 : layoutOf Tryz.prog 84 = some ([.string ByteArray.empty, .int .i64 0, .int .i64 0, .int .i64 0, .int .i64 0, .int .i64 0, .int .i64 0, .int .i64 0, .int .i64 0, .int .i64 0, .int .i64 0, .int .i64 0], [(0, 1), (1, 1), (2, 1), (3, 3), (6, 1), (7, 1), (8, 1), (9, 1), (10, 1), (11, 1)]) := by kernel_rfl
theorem ty84 : tyB Tryz.prog 84 true 12 = true := by kernel_rfl
theorem la124 : layoutOf Tryz.prog 124 = some ([.int .i64 0, .int .i64 0, .int .i64 0, .int .i64 0, .int .i64 0, .int .i64 0, .int .i64 0, .int .i64 0], [(0, 1), (1, 1), (2, 1), (3, 1), (4, 1), (5, 1), (6, 1), (7, 1)]) := by kernel_rfl
theorem fa84_1 : fieldB Tryz.prog 84 1 1 = true := by kernel_rfl
theorem fa84_2 : fieldB Tryz.prog 84 2 2 = true := by kernel_rfl
theorem fa84_3 : fieldB Tryz.prog 84 3 3 = true := by kernel_rfl
theorem fa84_4 : fieldB Tryz.prog 84 4 6 = true := by kernel_rfl
theorem fa84_5 : fieldB Tryz.prog 84 5 7 = true := by kernel_rfl
theorem mkLetter (k : Int) (hk : 0 ≤ k ∧ k ≤ 9) (w : World) : Calls Tryz.prog 79 [.int .i64 k].toArray w (Rets (vS (letterB k)) (w)) := by
  refine calls_of_doC (n := 7) Tryz.func79 rfl rfl rfl ?_
  refine doC_seq ?_
  refine doC_region ?_
  refine doL_v (opV_assign rfl) rfl rfl rfl ?_
  refine doL_nil ?_
  refine post_then ?_
  refine doC_seq ?_
  refine doC_region ?_
  refine doL_v (opV_move rfl) rfl rfl rfl ?_
  refine doL_v (opV_move rfl) rfl rfl rfl ?_
  refine doL_v (opV_add rfl rfl (by first | exact i64_in ⟨by omega, by omega⟩ | rfl)) rfl rfl rfl ?_
  refine doL_v (opV_sliceStr (s := abc) Tryz.underlying9 rfl rfl rfl (by omega) (by omega) (by show _ ≤ (10 : Int); omega)) rfl rfl rfl ?_
  refine doL_v (opV_assign rfl) rfl rfl rfl ?_
  refine doL_nil ?_
  refine post_then ?_
  refine doC_ret ?_
  refine post_rets (rs := [.tmp 2]) rfl (resC (resIs_tmp rfl) (resN)) (congrArg (vS) (?_ : _ = letterB k))
  rfl
theorem ixK {i : Int} (h : 0 ≤ i ∧ i < 8) : ∀ w : World, (Instr.index 124 (.agg #[.int .i64 3, .int .i64 3, .int .i64 1, .int .i64 2, .int .i64 4, .int .i64 5, .int .i64 3, .int .i64 0]) (.int .i64 i)).run Tryz.prog w = .ok (.int .i64 (kindOf i)) w := by
  have hi : i = 0 ∨ i = 1 ∨ i = 2 ∨ i = 3 ∨ i = 4 ∨ i = 5 ∨ i = 6 ∨ i = 7 := by omega
  rcases hi with rfl | rfl | rfl | rfl | rfl | rfl | rfl | rfl <;> (intro w; kernel_rfl)
theorem quo8 {a : Int} (h : -9000000000 ≤ a ∧ a ≤ 9000000000) : IntKind.i64.wrap (a.tdiv 8) = a.tdiv 8 := i64_in (by
  have := tdiv_bnd (a := a) (b := 8) (by unfold In64; omega) (by decide)
  exact this)
theorem hi8 {a b : Int} (ha : 0 ≤ a ∧ a < 4) (hb : 0 ≤ b ∧ b < 3) : IntKind.i64.wrap (((1 + a) * 65536).tdiv 8 + b) = ((1 + a) * 65536).tdiv 8 + b := i64_in (by
  rw [Int.tdiv_eq_ediv_of_nonneg (by omega)]; omega)
theorem mkJoint {b : Nat} {sl : Value} {L : List Int} {i : Nat} (k : Int) (hk : 0 ≤ k ∧ k ≤ 9) (w : World) (hs : Src w b sl L i) : Calls Tryz.prog 48 [.pointer (some ⟨b, 0, none⟩), .int .i64 k].toArray w (Rets (jv ((jointOf L i k).1)) (srcW w b sl L ((jointOf L i k).2))) := by
  refine calls_src (n := 68) hs Tryz.func48 rfl rfl rfl ?_
  refine doC_seq ?_
  refine doC_region ?_
  refine doL_alloc 4 ze84 rfl rfl rfl ?_; intro b4
  refine doL_nil ?_
  refine post_then ?_
  refine doC_seq ?_
  refine doC_region ?_
  refine doL_v (opV_move rfl) rfl rfl rfl ?_
  refine doL_vg (F := vS) (opV_call en79 rfl (fun w _ => mkLetter _ (by first | omega | assumption | (unfold In64; omega) | decide) w)) rfl rfl rfl ?_; intro r7 hr7
  refine doL_v (opV_move rfl) rfl rfl rfl ?_
  refine doL_v (opV_sub rfl rfl (by first | exact i64_in ⟨by omega, by omega⟩ | rfl)) rfl rfl rfl ?_
  refine doL_v (opV_move rfl) rfl rfl rfl ?_
  refine doL_srcA (F := vI) hs en24 rfl (fun w' h => srcNext _ (by first | omega | assumption | (unfold In64; omega) | decide) w' h) rfl rfl ?_; intro r11 hr11
  have br11 := srcR_b hr11 (by first | decide | omega)
  refine doL_v (opV_add rfl rfl (by first | exact i64_in ⟨by omega, by omega⟩ | rfl)) rfl rfl rfl ?_
  refine doL_v (opV_move rfl) rfl rfl rfl ?_
  refine doL_srcA (F := vI) hs en24 rfl (fun w' h => srcNext _ (by first | omega | assumption | (unfold In64; omega) | decide) w' h) rfl rfl ?_; intro r14 hr14
  have br14 := srcR_b hr14 (by first | decide | omega)
  refine doL_v (opV_add rfl rfl (by first | exact i64_in ⟨by omega, by omega⟩ | rfl)) rfl rfl rfl ?_
  refine doL_v (opV_build la84 rfl rfl) rfl rfl rfl ?_
  refine doL_alloc 5 ze84 rfl rfl rfl ?_; intro b5
  refine doL_store 5 ty84 rfl rfl rfl rfl rfl rfl rfl rfl ?_
  refine doL_nil ?_
  refine post_then ?_
  refine doC_seq ?_
  refine doC_region ?_
  refine doL_v (opV_build la124 rfl rfl) rfl rfl rfl ?_
  refine doL_v (opV_move rfl) rfl rfl rfl ?_
  refine doL_srcA (F := vI) hs en24 rfl (fun w' h => srcNext _ (by first | omega | assumption | (unfold In64; omega) | decide) w' h) rfl rfl ?_; intro r19 hr19
  have br19 := srcR_b hr19 (by first | decide | omega)
  refine doL_v (opV_index rfl rfl (ixK (by omega))) rfl rfl rfl ?_
  refine doL_v (opV_fieldAddr fa84_1 rfl) rfl rfl rfl ?_
  refine doL_store 5 ty3 rfl rfl rfl rfl rfl rfl rfl rfl ?_
  refine doL_nil ?_
  refine post_then ?_
  refine doC_seq ?_
  refine doC_seq ?_
  refine doC_region ?_
  refine doL_v (opV_move rfl) rfl rfl rfl ?_
  refine doL_srcA (F := vI) hs en24 rfl (fun w' h => srcNext _ (by first | omega | assumption | (unfold In64; omega) | decide) w' h) rfl rfl ?_; intro r23 hr23
  have br23 := srcR_b hr23 (by first | decide | omega)
  refine doL_v (opV_eql rfl rfl) rfl rfl rfl ?_
  refine doL_nil ?_
  refine post_then ?_
  refine doC_cond rfl (fun hc24 => ?_) (fun hc24 => ?_)
  ·
    have hp : srcR L (i + 3) 4 = 1 := by have := of_decide_eq_true hc24; rw [← this]; exact hr23.symm
    refine doC_region ?_
    refine doL_v (opV_fieldAddr fa84_2 rfl) rfl rfl rfl ?_
    refine doL_store 5 ty3 rfl rfl rfl rfl rfl rfl rfl rfl ?_
    refine doL_nil ?_
    refine post_then ?_
    refine doC_seq ?_
    refine doC_seq ?_
    refine doC_region ?_
    refine doL_v (opV_move rfl) rfl rfl rfl ?_
    refine doL_v (opV_gtr rfl rfl) rfl rfl rfl ?_
    refine doL_nil ?_
    refine post_then ?_
    refine doC_cond rfl (fun hc27 => ?_) (fun hc27 => ?_)
    ·
      have hi : 0 < k := of_decide_eq_true hc27
      refine doC_region ?_
      refine doL_v (opV_move rfl) rfl rfl rfl ?_
      refine doL_srcA (F := vI) hs en26 rfl (fun w' h => srcSigned _ (by first | omega | assumption | (unfold In64; omega) | decide) w' h) rfl rfl ?_; intro r29 hr29
      have br29 := srcS_b hr29 (by first | decide | omega)
      refine doL_v (opV_mul rfl rfl (by first | exact i64_in ⟨by omega, by omega⟩ | rfl)) rfl rfl rfl ?_
      refine doL_v (opV_move rfl) rfl rfl rfl ?_
      refine doL_srcA (F := vI) hs en26 rfl (fun w' h => srcSigned _ (by first | omega | assumption | (unfold In64; omega) | decide) w' h) rfl rfl ?_; intro r32 hr32
      have br32 := srcS_b hr32 (by first | decide | omega)
      refine doL_v (opV_mul rfl rfl (by first | exact i64_in ⟨by omega, by omega⟩ | rfl)) rfl rfl rfl ?_
      refine doL_v (opV_build la50 rfl rfl) rfl rfl rfl ?_
      refine doL_v (opV_fieldAddr fa84_3 rfl) rfl rfl rfl ?_
      refine doL_store 5 ty50 rfl rfl rfl rfl rfl rfl rfl rfl ?_
      refine doL_nil ?_
      refine post_then ?_
      refine doC_seq ?_
      refine doC_seq ?_
      refine doC_region ?_
      refine doL_v (opV_fieldAddr fa84_1 rfl) rfl rfl rfl ?_
      refine doL_v (opV_load1 5 ty3 rfl rfl rfl) rfl rfl rfl ?_
      refine doL_nil ?_
      refine post_then ?_
      refine doC_block ?_
      refine doC_seq ?_
      refine doC_region ?_
      refine doL_v (opV_eql rfl rfl) rfl rfl rfl ?_
      refine doL_v (opV_assign rfl) rfl rfl rfl ?_
      refine doL_nil ?_
      refine post_then ?_
      refine doC_cond rfl (fun hc53 => ?_) (fun hc53 => ?_)
      ·
        have hk0 : kindOf (srcR L (i + 2) 8) = 0 := by have := of_decide_eq_true hc53; rw [hr19] at this; exact this
        rw [jointOf_fix hk0]
        first | rw [jBase_a hp hi, jQ_pos hi] | rw [jBase_b hp hi, jQ_neg hi] | rw [jBase_c hp hi, jQ_pos hi] | rw [jBase_d hp hi, jQ_neg hi]
        refine doC_skip ?_
        refine post_block_normal ?_
        refine post_then ?_
        refine doC_seq ?_
        refine doC_region ?_
        refine doL_v (opV_loadA 5 ty84 rfl rfl rfl) rfl rfl rfl ?_
        refine doL_store 4 ty84 rfl rfl rfl rfl rfl rfl rfl rfl ?_
        refine doL_nil ?_
        refine post_then ?_
        refine doC_ret ?_
        refine post_rets (rs := [.cell 4 84]) rfl (resC (resIs_cell 4 rfl rfl ty84 rfl) (resN)) ?_
        subst_vars; rfl
      ·
        have hk0 : ¬ kindOf (srcR L (i + 2) 8) = 0 := by have := of_decide_eq_false hc53; rw [hr19] at this; exact this
        refine doC_seq ?_
        refine doC_seq ?_
        refine doC_region ?_
        refine doL_v (opV_eql rfl rfl) rfl rfl rfl ?_
        refine doL_v (opV_assign rfl) rfl rfl rfl ?_
        refine doL_nil ?_
        refine post_then ?_
        refine doC_cond rfl (fun hc55 => ?_) (fun hc55 => ?_)
        ·
          have hk4 : kindOf (srcR L (i + 2) 8) = 4 := by have := of_decide_eq_true hc55; rw [hr19] at this; exact this
          rw [jointOf_sl (.inl hk4)]
          first | rw [jBase_a hp hi, jQ_pos hi] | rw [jBase_b hp hi, jQ_neg hi] | rw [jBase_c hp hi, jQ_pos hi] | rw [jBase_d hp hi, jQ_neg hi]
          refine doC_skip ?_
          refine post_then ?_
          refine doC_cond_t rfl (hc55) ?_
          refine doC_region ?_
          refine doL_v (opV_move rfl) rfl rfl rfl ?_
          refine doL_srcA (F := vI) hs en24 rfl (fun w' h => srcNext _ (by first | omega | assumption | (unfold In64; omega) | decide) w' h) rfl rfl ?_; intro r59 hr59
          have br59 := srcR_b hr59 (by first | decide | omega)
          refine doL_v (opV_neg rfl (by first | exact neg_in ⟨by omega, by omega⟩ | rfl)) rfl rfl rfl ?_
          refine doL_v (opV_mul rfl rfl (by first | exact i64_in ⟨by omega, by omega⟩ | rfl)) rfl rfl rfl ?_
          refine doL_v (opV_move rfl) rfl rfl rfl ?_
          refine doL_srcA (F := vI) hs en24 rfl (fun w' h => srcNext _ (by first | omega | assumption | (unfold In64; omega) | decide) w' h) rfl rfl ?_; intro r63 hr63
          have br63 := srcR_b hr63 (by first | decide | omega)
          refine doL_v (opV_mul rfl rfl (by first | exact i64_in ⟨by omega, by omega⟩ | rfl)) rfl rfl rfl ?_
          refine doL_v (opV_fieldAddr fa84_4 rfl) rfl rfl rfl ?_
          refine doL_store 5 ty2 rfl rfl rfl rfl rfl rfl rfl rfl ?_
          refine doL_v (opV_fieldAddr fa84_5 rfl) rfl rfl rfl ?_
          refine doL_store 5 ty2 rfl rfl rfl rfl rfl rfl rfl rfl ?_
          refine doL_nil ?_
          refine post_block_normal ?_
          refine post_then ?_
          refine doC_seq ?_
          refine doC_region ?_
          refine doL_v (opV_loadA 5 ty84 rfl rfl rfl) rfl rfl rfl ?_
          refine doL_store 4 ty84 rfl rfl rfl rfl rfl rfl rfl rfl ?_
          refine doL_nil ?_
          refine post_then ?_
          refine doC_ret ?_
          refine post_rets (rs := [.cell 4 84]) rfl (resC (resIs_cell 4 rfl rfl ty84 rfl) (resN)) ?_
          subst_vars; rfl
        ·
          have hk4 : ¬ kindOf (srcR L (i + 2) 8) = 4 := by have := of_decide_eq_false hc55; rw [hr19] at this; exact this
          refine doC_region ?_
          refine doL_v (opV_eql rfl rfl) rfl rfl rfl ?_
          refine doL_v (opV_assign rfl) rfl rfl rfl ?_
          refine doL_nil ?_
          refine post_then ?_
          refine doC_cond rfl (fun hc55_2 => ?_) (fun hc55_2 => ?_)
          ·
            have hk5 : kindOf (srcR L (i + 2) 8) = 5 := by have := of_decide_eq_true hc55_2; rw [hr19] at this; exact this
            rw [jointOf_sl (.inr hk5)]
            first | rw [jBase_a hp hi, jQ_pos hi] | rw [jBase_b hp hi, jQ_neg hi] | rw [jBase_c hp hi, jQ_pos hi] | rw [jBase_d hp hi, jQ_neg hi]
            refine doC_region ?_
            refine doL_v (opV_move rfl) rfl rfl rfl ?_
            refine doL_srcA (F := vI) hs en24 rfl (fun w' h => srcNext _ (by first | omega | assumption | (unfold In64; omega) | decide) w' h) rfl rfl ?_; intro r59 hr59
            have br59 := srcR_b hr59 (by first | decide | omega)
            refine doL_v (opV_neg rfl (by first | exact neg_in ⟨by omega, by omega⟩ | rfl)) rfl rfl rfl ?_
            refine doL_v (opV_mul rfl rfl (by first | exact i64_in ⟨by omega, by omega⟩ | rfl)) rfl rfl rfl ?_
            refine doL_v (opV_move rfl) rfl rfl rfl ?_
            refine doL_srcA (F := vI) hs en24 rfl (fun w' h => srcNext _ (by first | omega | assumption | (unfold In64; omega) | decide) w' h) rfl rfl ?_; intro r63 hr63
            have br63 := srcR_b hr63 (by first | decide | omega)
            refine doL_v (opV_mul rfl rfl (by first | exact i64_in ⟨by omega, by omega⟩ | rfl)) rfl rfl rfl ?_
            refine doL_v (opV_fieldAddr fa84_4 rfl) rfl rfl rfl ?_
            refine doL_store 5 ty2 rfl rfl rfl rfl rfl rfl rfl rfl ?_
            refine doL_v (opV_fieldAddr fa84_5 rfl) rfl rfl rfl ?_
            refine doL_store 5 ty2 rfl rfl rfl rfl rfl rfl rfl rfl ?_
            refine doL_nil ?_
            refine post_block_normal ?_
            refine post_then ?_
            refine doC_seq ?_
            refine doC_region ?_
            refine doL_v (opV_loadA 5 ty84 rfl rfl rfl) rfl rfl rfl ?_
            refine doL_store 4 ty84 rfl rfl rfl rfl rfl rfl rfl rfl ?_
            refine doL_nil ?_
            refine post_then ?_
            refine doC_ret ?_
            refine post_rets (rs := [.cell 4 84]) rfl (resC (resIs_cell 4 rfl rfl ty84 rfl) (resN)) ?_
            subst_vars; rfl
          ·
            have hk5 : ¬ kindOf (srcR L (i + 2) 8) = 5 := by have := of_decide_eq_false hc55_2; rw [hr19] at this; exact this
            rw [jointOf_tu hk0 (by omega)]
            first | rw [jBase_a hp hi, jQ_pos hi] | rw [jBase_b hp hi, jQ_neg hi] | rw [jBase_c hp hi, jQ_pos hi] | rw [jBase_d hp hi, jQ_neg hi]
            refine doC_region ?_
            refine doL_v (opV_move rfl) rfl rfl rfl ?_
            refine doL_srcA (F := vI) hs en24 rfl (fun w' h => srcNext _ (by first | omega | assumption | (unfold In64; omega) | decide) w' h) rfl rfl ?_; intro r39 hr39
            have br39 := srcR_b hr39 (by first | decide | omega)
            refine doL_v (opV_neg rfl (by first | exact neg_in ⟨by omega, by omega⟩ | rfl)) rfl rfl rfl ?_
            refine doL_v (opV_mul rfl rfl (by first | exact i64_in ⟨by omega, by omega⟩ | rfl)) rfl rfl rfl ?_
            refine doL_v (opV_quo rfl rfl (by first | decide | omega) (quo8 (by omega))) rfl rfl rfl ?_
            refine doL_v (opV_move rfl) rfl rfl rfl ?_
            refine doL_srcA (F := vI) hs en24 rfl (fun w' h => srcNext _ (by first | omega | assumption | (unfold In64; omega) | decide) w' h) rfl rfl ?_; intro r44 hr44
            have br44 := srcR_b hr44 (by first | decide | omega)
            refine doL_v (opV_add rfl rfl (by first | exact i64_in ⟨by omega, by omega⟩ | rfl)) rfl rfl rfl ?_
            refine doL_v (opV_mul rfl rfl (by first | exact i64_in ⟨by omega, by omega⟩ | rfl)) rfl rfl rfl ?_
            refine doL_v (opV_quo rfl rfl (by first | decide | omega) (quo8 (by omega))) rfl rfl rfl ?_
            refine doL_v (opV_move rfl) rfl rfl rfl ?_
            refine doL_srcA (F := vI) hs en24 rfl (fun w' h => srcNext _ (by first | omega | assumption | (unfold In64; omega) | decide) w' h) rfl rfl ?_; intro r49 hr49
            have br49 := srcR_b hr49 (by first | decide | omega)
            refine doL_v (opV_add rfl rfl (hi8 br44 br49)) rfl rfl rfl ?_
            refine doL_v (opV_fieldAddr fa84_4 rfl) rfl rfl rfl ?_
            refine doL_store 5 ty2 rfl rfl rfl rfl rfl rfl rfl rfl ?_
            refine doL_v (opV_fieldAddr fa84_5 rfl) rfl rfl rfl ?_
            refine doL_store 5 ty2 rfl rfl rfl rfl rfl rfl rfl rfl ?_
            refine doL_nil ?_
            refine post_block_normal ?_
            refine post_then ?_
            refine doC_seq ?_
            refine doC_region ?_
            refine doL_v (opV_loadA 5 ty84 rfl rfl rfl) rfl rfl rfl ?_
            refine doL_store 4 ty84 rfl rfl rfl rfl rfl rfl rfl rfl ?_
            refine doL_nil ?_
            refine post_then ?_
            refine doC_ret ?_
            refine post_rets (rs := [.cell 4 84]) rfl (resC (resIs_cell 4 rfl rfl ty84 rfl) (resN)) ?_
            subst_vars; rfl
    ·
      have hi : ¬ 0 < k := of_decide_eq_false hc27
      refine doC_skip ?_
      refine post_then ?_
      refine doC_seq ?_
      refine doC_seq ?_
      refine doC_region ?_
      refine doL_v (opV_fieldAddr fa84_1 rfl) rfl rfl rfl ?_
      refine doL_v (opV_load1 5 ty3 rfl rfl rfl) rfl rfl rfl ?_
      refine doL_nil ?_
      refine post_then ?_
      refine doC_block ?_
      refine doC_seq ?_
      refine doC_region ?_
      refine doL_v (opV_eql rfl rfl) rfl rfl rfl ?_
      refine doL_v (opV_assign rfl) rfl rfl rfl ?_
      refine doL_nil ?_
      refine post_then ?_
      refine doC_cond rfl (fun hc53 => ?_) (fun hc53 => ?_)
      ·
        have hk0 : kindOf (srcR L (i + 2) 8) = 0 := by have := of_decide_eq_true hc53; rw [hr19] at this; exact this
        rw [jointOf_fix hk0]
        first | rw [jBase_a hp hi, jQ_pos hi] | rw [jBase_b hp hi, jQ_neg hi] | rw [jBase_c hp hi, jQ_pos hi] | rw [jBase_d hp hi, jQ_neg hi]
        refine doC_skip ?_
        refine post_block_normal ?_
        refine post_then ?_
        refine doC_seq ?_
        refine doC_region ?_
        refine doL_v (opV_loadA 5 ty84 rfl rfl rfl) rfl rfl rfl ?_
        refine doL_store 4 ty84 rfl rfl rfl rfl rfl rfl rfl rfl ?_
        refine doL_nil ?_
        refine post_then ?_
        refine doC_ret ?_
        refine post_rets (rs := [.cell 4 84]) rfl (resC (resIs_cell 4 rfl rfl ty84 rfl) (resN)) ?_
        subst_vars; rfl
      ·
        have hk0 : ¬ kindOf (srcR L (i + 2) 8) = 0 := by have := of_decide_eq_false hc53; rw [hr19] at this; exact this
        refine doC_seq ?_
        refine doC_seq ?_
        refine doC_region ?_
        refine doL_v (opV_eql rfl rfl) rfl rfl rfl ?_
        refine doL_v (opV_assign rfl) rfl rfl rfl ?_
        refine doL_nil ?_
        refine post_then ?_
        refine doC_cond rfl (fun hc55 => ?_) (fun hc55 => ?_)
        ·
          have hk4 : kindOf (srcR L (i + 2) 8) = 4 := by have := of_decide_eq_true hc55; rw [hr19] at this; exact this
          rw [jointOf_sl (.inl hk4)]
          first | rw [jBase_a hp hi, jQ_pos hi] | rw [jBase_b hp hi, jQ_neg hi] | rw [jBase_c hp hi, jQ_pos hi] | rw [jBase_d hp hi, jQ_neg hi]
          refine doC_skip ?_
          refine post_then ?_
          refine doC_cond_t rfl (hc55) ?_
          refine doC_region ?_
          refine doL_v (opV_move rfl) rfl rfl rfl ?_
          refine doL_srcA (F := vI) hs en24 rfl (fun w' h => srcNext _ (by first | omega | assumption | (unfold In64; omega) | decide) w' h) rfl rfl ?_; intro r59 hr59
          have br59 := srcR_b hr59 (by first | decide | omega)
          refine doL_v (opV_neg rfl (by first | exact neg_in ⟨by omega, by omega⟩ | rfl)) rfl rfl rfl ?_
          refine doL_v (opV_mul rfl rfl (by first | exact i64_in ⟨by omega, by omega⟩ | rfl)) rfl rfl rfl ?_
          refine doL_v (opV_move rfl) rfl rfl rfl ?_
          refine doL_srcA (F := vI) hs en24 rfl (fun w' h => srcNext _ (by first | omega | assumption | (unfold In64; omega) | decide) w' h) rfl rfl ?_; intro r63 hr63
          have br63 := srcR_b hr63 (by first | decide | omega)
          refine doL_v (opV_mul rfl rfl (by first | exact i64_in ⟨by omega, by omega⟩ | rfl)) rfl rfl rfl ?_
          refine doL_v (opV_fieldAddr fa84_4 rfl) rfl rfl rfl ?_
          refine doL_store 5 ty2 rfl rfl rfl rfl rfl rfl rfl rfl ?_
          refine doL_v (opV_fieldAddr fa84_5 rfl) rfl rfl rfl ?_
          refine doL_store 5 ty2 rfl rfl rfl rfl rfl rfl rfl rfl ?_
          refine doL_nil ?_
          refine post_block_normal ?_
          refine post_then ?_
          refine doC_seq ?_
          refine doC_region ?_
          refine doL_v (opV_loadA 5 ty84 rfl rfl rfl) rfl rfl rfl ?_
          refine doL_store 4 ty84 rfl rfl rfl rfl rfl rfl rfl rfl ?_
          refine doL_nil ?_
          refine post_then ?_
          refine doC_ret ?_
          refine post_rets (rs := [.cell 4 84]) rfl (resC (resIs_cell 4 rfl rfl ty84 rfl) (resN)) ?_
          subst_vars; rfl
        ·
          have hk4 : ¬ kindOf (srcR L (i + 2) 8) = 4 := by have := of_decide_eq_false hc55; rw [hr19] at this; exact this
          refine doC_region ?_
          refine doL_v (opV_eql rfl rfl) rfl rfl rfl ?_
          refine doL_v (opV_assign rfl) rfl rfl rfl ?_
          refine doL_nil ?_
          refine post_then ?_
          refine doC_cond rfl (fun hc55_2 => ?_) (fun hc55_2 => ?_)
          ·
            have hk5 : kindOf (srcR L (i + 2) 8) = 5 := by have := of_decide_eq_true hc55_2; rw [hr19] at this; exact this
            rw [jointOf_sl (.inr hk5)]
            first | rw [jBase_a hp hi, jQ_pos hi] | rw [jBase_b hp hi, jQ_neg hi] | rw [jBase_c hp hi, jQ_pos hi] | rw [jBase_d hp hi, jQ_neg hi]
            refine doC_region ?_
            refine doL_v (opV_move rfl) rfl rfl rfl ?_
            refine doL_srcA (F := vI) hs en24 rfl (fun w' h => srcNext _ (by first | omega | assumption | (unfold In64; omega) | decide) w' h) rfl rfl ?_; intro r59 hr59
            have br59 := srcR_b hr59 (by first | decide | omega)
            refine doL_v (opV_neg rfl (by first | exact neg_in ⟨by omega, by omega⟩ | rfl)) rfl rfl rfl ?_
            refine doL_v (opV_mul rfl rfl (by first | exact i64_in ⟨by omega, by omega⟩ | rfl)) rfl rfl rfl ?_
            refine doL_v (opV_move rfl) rfl rfl rfl ?_
            refine doL_srcA (F := vI) hs en24 rfl (fun w' h => srcNext _ (by first | omega | assumption | (unfold In64; omega) | decide) w' h) rfl rfl ?_; intro r63 hr63
            have br63 := srcR_b hr63 (by first | decide | omega)
            refine doL_v (opV_mul rfl rfl (by first | exact i64_in ⟨by omega, by omega⟩ | rfl)) rfl rfl rfl ?_
            refine doL_v (opV_fieldAddr fa84_4 rfl) rfl rfl rfl ?_
            refine doL_store 5 ty2 rfl rfl rfl rfl rfl rfl rfl rfl ?_
            refine doL_v (opV_fieldAddr fa84_5 rfl) rfl rfl rfl ?_
            refine doL_store 5 ty2 rfl rfl rfl rfl rfl rfl rfl rfl ?_
            refine doL_nil ?_
            refine post_block_normal ?_
            refine post_then ?_
            refine doC_seq ?_
            refine doC_region ?_
            refine doL_v (opV_loadA 5 ty84 rfl rfl rfl) rfl rfl rfl ?_
            refine doL_store 4 ty84 rfl rfl rfl rfl rfl rfl rfl rfl ?_
            refine doL_nil ?_
            refine post_then ?_
            refine doC_ret ?_
            refine post_rets (rs := [.cell 4 84]) rfl (resC (resIs_cell 4 rfl rfl ty84 rfl) (resN)) ?_
            subst_vars; rfl
          ·
            have hk5 : ¬ kindOf (srcR L (i + 2) 8) = 5 := by have := of_decide_eq_false hc55_2; rw [hr19] at this; exact this
            rw [jointOf_tu hk0 (by omega)]
            first | rw [jBase_a hp hi, jQ_pos hi] | rw [jBase_b hp hi, jQ_neg hi] | rw [jBase_c hp hi, jQ_pos hi] | rw [jBase_d hp hi, jQ_neg hi]
            refine doC_region ?_
            refine doL_v (opV_move rfl) rfl rfl rfl ?_
            refine doL_srcA (F := vI) hs en24 rfl (fun w' h => srcNext _ (by first | omega | assumption | (unfold In64; omega) | decide) w' h) rfl rfl ?_; intro r39 hr39
            have br39 := srcR_b hr39 (by first | decide | omega)
            refine doL_v (opV_neg rfl (by first | exact neg_in ⟨by omega, by omega⟩ | rfl)) rfl rfl rfl ?_
            refine doL_v (opV_mul rfl rfl (by first | exact i64_in ⟨by omega, by omega⟩ | rfl)) rfl rfl rfl ?_
            refine doL_v (opV_quo rfl rfl (by first | decide | omega) (quo8 (by omega))) rfl rfl rfl ?_
            refine doL_v (opV_move rfl) rfl rfl rfl ?_
            refine doL_srcA (F := vI) hs en24 rfl (fun w' h => srcNext _ (by first | omega | assumption | (unfold In64; omega) | decide) w' h) rfl rfl ?_; intro r44 hr44
            have br44 := srcR_b hr44 (by first | decide | omega)
            refine doL_v (opV_add rfl rfl (by first | exact i64_in ⟨by omega, by omega⟩ | rfl)) rfl rfl rfl ?_
            refine doL_v (opV_mul rfl rfl (by first | exact i64_in ⟨by omega, by omega⟩ | rfl)) rfl rfl rfl ?_
            refine doL_v (opV_quo rfl rfl (by first | decide | omega) (quo8 (by omega))) rfl rfl rfl ?_
            refine doL_v (opV_move rfl) rfl rfl rfl ?_
            refine doL_srcA (F := vI) hs en24 rfl (fun w' h => srcNext _ (by first | omega | assumption | (unfold In64; omega) | decide) w' h) rfl rfl ?_; intro r49 hr49
            have br49 := srcR_b hr49 (by first | decide | omega)
            refine doL_v (opV_add rfl rfl (hi8 br44 br49)) rfl rfl rfl ?_
            refine doL_v (opV_fieldAddr fa84_4 rfl) rfl rfl rfl ?_
            refine doL_store 5 ty2 rfl rfl rfl rfl rfl rfl rfl rfl ?_
            refine doL_v (opV_fieldAddr fa84_5 rfl) rfl rfl rfl ?_
            refine doL_store 5 ty2 rfl rfl rfl rfl rfl rfl rfl rfl ?_
            refine doL_nil ?_
            refine post_block_normal ?_
            refine post_then ?_
            refine doC_seq ?_
            refine doC_region ?_
            refine doL_v (opV_loadA 5 ty84 rfl rfl rfl) rfl rfl rfl ?_
            refine doL_store 4 ty84 rfl rfl rfl rfl rfl rfl rfl rfl ?_
            refine doL_nil ?_
            refine post_then ?_
            refine doC_ret ?_
            refine post_rets (rs := [.cell 4 84]) rfl (resC (resIs_cell 4 rfl rfl ty84 rfl) (resN)) ?_
            subst_vars; rfl
  ·
    have hp : ¬ srcR L (i + 3) 4 = 1 := fun e => by have := of_decide_eq_false hc24; exact this (hr23.trans e)
    refine doC_skip ?_
    refine post_then ?_
    refine doC_seq ?_
    refine doC_seq ?_
    refine doC_region ?_
    refine doL_v (opV_move rfl) rfl rfl rfl ?_
    refine doL_v (opV_gtr rfl rfl) rfl rfl rfl ?_
    refine doL_nil ?_
    refine post_then ?_
    refine doC_cond rfl (fun hc27 => ?_) (fun hc27 => ?_)
    ·
      have hi : 0 < k := of_decide_eq_true hc27
      refine doC_region ?_
      refine doL_v (opV_move rfl) rfl rfl rfl ?_
      refine doL_srcA (F := vI) hs en26 rfl (fun w' h => srcSigned _ (by first | omega | assumption | (unfold In64; omega) | decide) w' h) rfl rfl ?_; intro r29 hr29
      have br29 := srcS_b hr29 (by first | decide | omega)
      refine doL_v (opV_mul rfl rfl (by first | exact i64_in ⟨by omega, by omega⟩ | rfl)) rfl rfl rfl ?_
      refine doL_v (opV_move rfl) rfl rfl rfl ?_
      refine doL_srcA (F := vI) hs en26 rfl (fun w' h => srcSigned _ (by first | omega | assumption | (unfold In64; omega) | decide) w' h) rfl rfl ?_; intro r32 hr32
      have br32 := srcS_b hr32 (by first | decide | omega)
      refine doL_v (opV_mul rfl rfl (by first | exact i64_in ⟨by omega, by omega⟩ | rfl)) rfl rfl rfl ?_
      refine doL_v (opV_build la50 rfl rfl) rfl rfl rfl ?_
      refine doL_v (opV_fieldAddr fa84_3 rfl) rfl rfl rfl ?_
      refine doL_store 5 ty50 rfl rfl rfl rfl rfl rfl rfl rfl ?_
      refine doL_nil ?_
      refine post_then ?_
      refine doC_seq ?_
      refine doC_seq ?_
      refine doC_region ?_
      refine doL_v (opV_fieldAddr fa84_1 rfl) rfl rfl rfl ?_
      refine doL_v (opV_load1 5 ty3 rfl rfl rfl) rfl rfl rfl ?_
      refine doL_nil ?_
      refine post_then ?_
      refine doC_block ?_
      refine doC_seq ?_
      refine doC_region ?_
      refine doL_v (opV_eql rfl rfl) rfl rfl rfl ?_
      refine doL_v (opV_assign rfl) rfl rfl rfl ?_
      refine doL_nil ?_
      refine post_then ?_
      refine doC_cond rfl (fun hc53 => ?_) (fun hc53 => ?_)
      ·
        have hk0 : kindOf (srcR L (i + 2) 8) = 0 := by have := of_decide_eq_true hc53; rw [hr19] at this; exact this
        rw [jointOf_fix hk0]
        first | rw [jBase_a hp hi, jQ_pos hi] | rw [jBase_b hp hi, jQ_neg hi] | rw [jBase_c hp hi, jQ_pos hi] | rw [jBase_d hp hi, jQ_neg hi]
        refine doC_skip ?_
        refine post_block_normal ?_
        refine post_then ?_
        refine doC_seq ?_
        refine doC_region ?_
        refine doL_v (opV_loadA 5 ty84 rfl rfl rfl) rfl rfl rfl ?_
        refine doL_store 4 ty84 rfl rfl rfl rfl rfl rfl rfl rfl ?_
        refine doL_nil ?_
        refine post_then ?_
        refine doC_ret ?_
        refine post_rets (rs := [.cell 4 84]) rfl (resC (resIs_cell 4 rfl rfl ty84 rfl) (resN)) ?_
        subst_vars; rfl
      ·
        have hk0 : ¬ kindOf (srcR L (i + 2) 8) = 0 := by have := of_decide_eq_false hc53; rw [hr19] at this; exact this
        refine doC_seq ?_
        refine doC_seq ?_
        refine doC_region ?_
        refine doL_v (opV_eql rfl rfl) rfl rfl rfl ?_
        refine doL_v (opV_assign rfl) rfl rfl rfl ?_
        refine doL_nil ?_
        refine post_then ?_
        refine doC_cond rfl (fun hc55 => ?_) (fun hc55 => ?_)
        ·
          have hk4 : kindOf (srcR L (i + 2) 8) = 4 := by have := of_decide_eq_true hc55; rw [hr19] at this; exact this
          rw [jointOf_sl (.inl hk4)]
          first | rw [jBase_a hp hi, jQ_pos hi] | rw [jBase_b hp hi, jQ_neg hi] | rw [jBase_c hp hi, jQ_pos hi] | rw [jBase_d hp hi, jQ_neg hi]
          refine doC_skip ?_
          refine post_then ?_
          refine doC_cond_t rfl (hc55) ?_
          refine doC_region ?_
          refine doL_v (opV_move rfl) rfl rfl rfl ?_
          refine doL_srcA (F := vI) hs en24 rfl (fun w' h => srcNext _ (by first | omega | assumption | (unfold In64; omega) | decide) w' h) rfl rfl ?_; intro r59 hr59
          have br59 := srcR_b hr59 (by first | decide | omega)
          refine doL_v (opV_neg rfl (by first | exact neg_in ⟨by omega, by omega⟩ | rfl)) rfl rfl rfl ?_
          refine doL_v (opV_mul rfl rfl (by first | exact i64_in ⟨by omega, by omega⟩ | rfl)) rfl rfl rfl ?_
          refine doL_v (opV_move rfl) rfl rfl rfl ?_
          refine doL_srcA (F := vI) hs en24 rfl (fun w' h => srcNext _ (by first | omega | assumption | (unfold In64; omega) | decide) w' h) rfl rfl ?_; intro r63 hr63
          have br63 := srcR_b hr63 (by first | decide | omega)
          refine doL_v (opV_mul rfl rfl (by first | exact i64_in ⟨by omega, by omega⟩ | rfl)) rfl rfl rfl ?_
          refine doL_v (opV_fieldAddr fa84_4 rfl) rfl rfl rfl ?_
          refine doL_store 5 ty2 rfl rfl rfl rfl rfl rfl rfl rfl ?_
          refine doL_v (opV_fieldAddr fa84_5 rfl) rfl rfl rfl ?_
          refine doL_store 5 ty2 rfl rfl rfl rfl rfl rfl rfl rfl ?_
          refine doL_nil ?_
          refine post_block_normal ?_
          refine post_then ?_
          refine doC_seq ?_
          refine doC_region ?_
          refine doL_v (opV_loadA 5 ty84 rfl rfl rfl) rfl rfl rfl ?_
          refine doL_store 4 ty84 rfl rfl rfl rfl rfl rfl rfl rfl ?_
          refine doL_nil ?_
          refine post_then ?_
          refine doC_ret ?_
          refine post_rets (rs := [.cell 4 84]) rfl (resC (resIs_cell 4 rfl rfl ty84 rfl) (resN)) ?_
          subst_vars; rfl
        ·
          have hk4 : ¬ kindOf (srcR L (i + 2) 8) = 4 := by have := of_decide_eq_false hc55; rw [hr19] at this; exact this
          refine doC_region ?_
          refine doL_v (opV_eql rfl rfl) rfl rfl rfl ?_
          refine doL_v (opV_assign rfl) rfl rfl rfl ?_
          refine doL_nil ?_
          refine post_then ?_
          refine doC_cond rfl (fun hc55_2 => ?_) (fun hc55_2 => ?_)
          ·
            have hk5 : kindOf (srcR L (i + 2) 8) = 5 := by have := of_decide_eq_true hc55_2; rw [hr19] at this; exact this
            rw [jointOf_sl (.inr hk5)]
            first | rw [jBase_a hp hi, jQ_pos hi] | rw [jBase_b hp hi, jQ_neg hi] | rw [jBase_c hp hi, jQ_pos hi] | rw [jBase_d hp hi, jQ_neg hi]
            refine doC_region ?_
            refine doL_v (opV_move rfl) rfl rfl rfl ?_
            refine doL_srcA (F := vI) hs en24 rfl (fun w' h => srcNext _ (by first | omega | assumption | (unfold In64; omega) | decide) w' h) rfl rfl ?_; intro r59 hr59
            have br59 := srcR_b hr59 (by first | decide | omega)
            refine doL_v (opV_neg rfl (by first | exact neg_in ⟨by omega, by omega⟩ | rfl)) rfl rfl rfl ?_
            refine doL_v (opV_mul rfl rfl (by first | exact i64_in ⟨by omega, by omega⟩ | rfl)) rfl rfl rfl ?_
            refine doL_v (opV_move rfl) rfl rfl rfl ?_
            refine doL_srcA (F := vI) hs en24 rfl (fun w' h => srcNext _ (by first | omega | assumption | (unfold In64; omega) | decide) w' h) rfl rfl ?_; intro r63 hr63
            have br63 := srcR_b hr63 (by first | decide | omega)
            refine doL_v (opV_mul rfl rfl (by first | exact i64_in ⟨by omega, by omega⟩ | rfl)) rfl rfl rfl ?_
            refine doL_v (opV_fieldAddr fa84_4 rfl) rfl rfl rfl ?_
            refine doL_store 5 ty2 rfl rfl rfl rfl rfl rfl rfl rfl ?_
            refine doL_v (opV_fieldAddr fa84_5 rfl) rfl rfl rfl ?_
            refine doL_store 5 ty2 rfl rfl rfl rfl rfl rfl rfl rfl ?_
            refine doL_nil ?_
            refine post_block_normal ?_
            refine post_then ?_
            refine doC_seq ?_
            refine doC_region ?_
            refine doL_v (opV_loadA 5 ty84 rfl rfl rfl) rfl rfl rfl ?_
            refine doL_store 4 ty84 rfl rfl rfl rfl rfl rfl rfl rfl ?_
            refine doL_nil ?_
            refine post_then ?_
            refine doC_ret ?_
            refine post_rets (rs := [.cell 4 84]) rfl (resC (resIs_cell 4 rfl rfl ty84 rfl) (resN)) ?_
            subst_vars; rfl
          ·
            have hk5 : ¬ kindOf (srcR L (i + 2) 8) = 5 := by have := of_decide_eq_false hc55_2; rw [hr19] at this; exact this
            rw [jointOf_tu hk0 (by omega)]
            first | rw [jBase_a hp hi, jQ_pos hi] | rw [jBase_b hp hi, jQ_neg hi] | rw [jBase_c hp hi, jQ_pos hi] | rw [jBase_d hp hi, jQ_neg hi]
            refine doC_region ?_
            refine doL_v (opV_move rfl) rfl rfl rfl ?_
            refine doL_srcA (F := vI) hs en24 rfl (fun w' h => srcNext _ (by first | omega | assumption | (unfold In64; omega) | decide) w' h) rfl rfl ?_; intro r39 hr39
            have br39 := srcR_b hr39 (by first | decide | omega)
            refine doL_v (opV_neg rfl (by first | exact neg_in ⟨by omega, by omega⟩ | rfl)) rfl rfl rfl ?_
            refine doL_v (opV_mul rfl rfl (by first | exact i64_in ⟨by omega, by omega⟩ | rfl)) rfl rfl rfl ?_
            refine doL_v (opV_quo rfl rfl (by first | decide | omega) (quo8 (by omega))) rfl rfl rfl ?_
            refine doL_v (opV_move rfl) rfl rfl rfl ?_
            refine doL_srcA (F := vI) hs en24 rfl (fun w' h => srcNext _ (by first | omega | assumption | (unfold In64; omega) | decide) w' h) rfl rfl ?_; intro r44 hr44
            have br44 := srcR_b hr44 (by first | decide | omega)
            refine doL_v (opV_add rfl rfl (by first | exact i64_in ⟨by omega, by omega⟩ | rfl)) rfl rfl rfl ?_
            refine doL_v (opV_mul rfl rfl (by first | exact i64_in ⟨by omega, by omega⟩ | rfl)) rfl rfl rfl ?_
            refine doL_v (opV_quo rfl rfl (by first | decide | omega) (quo8 (by omega))) rfl rfl rfl ?_
            refine doL_v (opV_move rfl) rfl rfl rfl ?_
            refine doL_srcA (F := vI) hs en24 rfl (fun w' h => srcNext _ (by first | omega | assumption | (unfold In64; omega) | decide) w' h) rfl rfl ?_; intro r49 hr49
            have br49 := srcR_b hr49 (by first | decide | omega)
            refine doL_v (opV_add rfl rfl (hi8 br44 br49)) rfl rfl rfl ?_
            refine doL_v (opV_fieldAddr fa84_4 rfl) rfl rfl rfl ?_
            refine doL_store 5 ty2 rfl rfl rfl rfl rfl rfl rfl rfl ?_
            refine doL_v (opV_fieldAddr fa84_5 rfl) rfl rfl rfl ?_
            refine doL_store 5 ty2 rfl rfl rfl rfl rfl rfl rfl rfl ?_
            refine doL_nil ?_
            refine post_block_normal ?_
            refine post_then ?_
            refine doC_seq ?_
            refine doC_region ?_
            refine doL_v (opV_loadA 5 ty84 rfl rfl rfl) rfl rfl rfl ?_
            refine doL_store 4 ty84 rfl rfl rfl rfl rfl rfl rfl rfl ?_
            refine doL_nil ?_
            refine post_then ?_
            refine doC_ret ?_
            refine post_rets (rs := [.cell 4 84]) rfl (resC (resIs_cell 4 rfl rfl ty84 rfl) (resN)) ?_
            subst_vars; rfl
    ·
      have hi : ¬ 0 < k := of_decide_eq_false hc27
      refine doC_skip ?_
      refine post_then ?_
      refine doC_seq ?_
      refine doC_seq ?_
      refine doC_region ?_
      refine doL_v (opV_fieldAddr fa84_1 rfl) rfl rfl rfl ?_
      refine doL_v (opV_load1 5 ty3 rfl rfl rfl) rfl rfl rfl ?_
      refine doL_nil ?_
      refine post_then ?_
      refine doC_block ?_
      refine doC_seq ?_
      refine doC_region ?_
      refine doL_v (opV_eql rfl rfl) rfl rfl rfl ?_
      refine doL_v (opV_assign rfl) rfl rfl rfl ?_
      refine doL_nil ?_
      refine post_then ?_
      refine doC_cond rfl (fun hc53 => ?_) (fun hc53 => ?_)
      ·
        have hk0 : kindOf (srcR L (i + 2) 8) = 0 := by have := of_decide_eq_true hc53; rw [hr19] at this; exact this
        rw [jointOf_fix hk0]
        first | rw [jBase_a hp hi, jQ_pos hi] | rw [jBase_b hp hi, jQ_neg hi] | rw [jBase_c hp hi, jQ_pos hi] | rw [jBase_d hp hi, jQ_neg hi]
        refine doC_skip ?_
        refine post_block_normal ?_
        refine post_then ?_
        refine doC_seq ?_
        refine doC_region ?_
        refine doL_v (opV_loadA 5 ty84 rfl rfl rfl) rfl rfl rfl ?_
        refine doL_store 4 ty84 rfl rfl rfl rfl rfl rfl rfl rfl ?_
        refine doL_nil ?_
        refine post_then ?_
        refine doC_ret ?_
        refine post_rets (rs := [.cell 4 84]) rfl (resC (resIs_cell 4 rfl rfl ty84 rfl) (resN)) ?_
        subst_vars; rfl
      ·
        have hk0 : ¬ kindOf (srcR L (i + 2) 8) = 0 := by have := of_decide_eq_false hc53; rw [hr19] at this; exact this
        refine doC_seq ?_
        refine doC_seq ?_
        refine doC_region ?_
        refine doL_v (opV_eql rfl rfl) rfl rfl rfl ?_
        refine doL_v (opV_assign rfl) rfl rfl rfl ?_
        refine doL_nil ?_
        refine post_then ?_
        refine doC_cond rfl (fun hc55 => ?_) (fun hc55 => ?_)
        ·
          have hk4 : kindOf (srcR L (i + 2) 8) = 4 := by have := of_decide_eq_true hc55; rw [hr19] at this; exact this
          rw [jointOf_sl (.inl hk4)]
          first | rw [jBase_a hp hi, jQ_pos hi] | rw [jBase_b hp hi, jQ_neg hi] | rw [jBase_c hp hi, jQ_pos hi] | rw [jBase_d hp hi, jQ_neg hi]
          refine doC_skip ?_
          refine post_then ?_
          refine doC_cond_t rfl (hc55) ?_
          refine doC_region ?_
          refine doL_v (opV_move rfl) rfl rfl rfl ?_
          refine doL_srcA (F := vI) hs en24 rfl (fun w' h => srcNext _ (by first | omega | assumption | (unfold In64; omega) | decide) w' h) rfl rfl ?_; intro r59 hr59
          have br59 := srcR_b hr59 (by first | decide | omega)
          refine doL_v (opV_neg rfl (by first | exact neg_in ⟨by omega, by omega⟩ | rfl)) rfl rfl rfl ?_
          refine doL_v (opV_mul rfl rfl (by first | exact i64_in ⟨by omega, by omega⟩ | rfl)) rfl rfl rfl ?_
          refine doL_v (opV_move rfl) rfl rfl rfl ?_
          refine doL_srcA (F := vI) hs en24 rfl (fun w' h => srcNext _ (by first | omega | assumption | (unfold In64; omega) | decide) w' h) rfl rfl ?_; intro r63 hr63
          have br63 := srcR_b hr63 (by first | decide | omega)
          refine doL_v (opV_mul rfl rfl (by first | exact i64_in ⟨by omega, by omega⟩ | rfl)) rfl rfl rfl ?_
          refine doL_v (opV_fieldAddr fa84_4 rfl) rfl rfl rfl ?_
          refine doL_store 5 ty2 rfl rfl rfl rfl rfl rfl rfl rfl ?_
          refine doL_v (opV_fieldAddr fa84_5 rfl) rfl rfl rfl ?_
          refine doL_store 5 ty2 rfl rfl rfl rfl rfl rfl rfl rfl ?_
          refine doL_nil ?_
          refine post_block_normal ?_
          refine post_then ?_
          refine doC_seq ?_
          refine doC_region ?_
          refine doL_v (opV_loadA 5 ty84 rfl rfl rfl) rfl rfl rfl ?_
          refine doL_store 4 ty84 rfl rfl rfl rfl rfl rfl rfl rfl ?_
          refine doL_nil ?_
          refine post_then ?_
          refine doC_ret ?_
          refine post_rets (rs := [.cell 4 84]) rfl (resC (resIs_cell 4 rfl rfl ty84 rfl) (resN)) ?_
          subst_vars; rfl
        ·
          have hk4 : ¬ kindOf (srcR L (i + 2) 8) = 4 := by have := of_decide_eq_false hc55; rw [hr19] at this; exact this
          refine doC_region ?_
          refine doL_v (opV_eql rfl rfl) rfl rfl rfl ?_
          refine doL_v (opV_assign rfl) rfl rfl rfl ?_
          refine doL_nil ?_
          refine post_then ?_
          refine doC_cond rfl (fun hc55_2 => ?_) (fun hc55_2 => ?_)
          ·
            have hk5 : kindOf (srcR L (i + 2) 8) = 5 := by have := of_decide_eq_true hc55_2; rw [hr19] at this; exact this
            rw [jointOf_sl (.inr hk5)]
            first | rw [jBase_a hp hi, jQ_pos hi] | rw [jBase_b hp hi, jQ_neg hi] | rw [jBase_c hp hi, jQ_pos hi] | rw [jBase_d hp hi, jQ_neg hi]
            refine doC_region ?_
            refine doL_v (opV_move rfl) rfl rfl rfl ?_
            refine doL_srcA (F := vI) hs en24 rfl (fun w' h => srcNext _ (by first | omega | assumption | (unfold In64; omega) | decide) w' h) rfl rfl ?_; intro r59 hr59
            have br59 := srcR_b hr59 (by first | decide | omega)
            refine doL_v (opV_neg rfl (by first | exact neg_in ⟨by omega, by omega⟩ | rfl)) rfl rfl rfl ?_
            refine doL_v (opV_mul rfl rfl (by first | exact i64_in ⟨by omega, by omega⟩ | rfl)) rfl rfl rfl ?_
            refine doL_v (opV_move rfl) rfl rfl rfl ?_
            refine doL_srcA (F := vI) hs en24 rfl (fun w' h => srcNext _ (by first | omega | assumption | (unfold In64; omega) | decide) w' h) rfl rfl ?_; intro r63 hr63
            have br63 := srcR_b hr63 (by first | decide | omega)
            refine doL_v (opV_mul rfl rfl (by first | exact i64_in ⟨by omega, by omega⟩ | rfl)) rfl rfl rfl ?_
            refine doL_v (opV_fieldAddr fa84_4 rfl) rfl rfl rfl ?_
            refine doL_store 5 ty2 rfl rfl rfl rfl rfl rfl rfl rfl ?_
            refine doL_v (opV_fieldAddr fa84_5 rfl) rfl rfl rfl ?_
            refine doL_store 5 ty2 rfl rfl rfl rfl rfl rfl rfl rfl ?_
            refine doL_nil ?_
            refine post_block_normal ?_
            refine post_then ?_
            refine doC_seq ?_
            refine doC_region ?_
            refine doL_v (opV_loadA 5 ty84 rfl rfl rfl) rfl rfl rfl ?_
            refine doL_store 4 ty84 rfl rfl rfl rfl rfl rfl rfl rfl ?_
            refine doL_nil ?_
            refine post_then ?_
            refine doC_ret ?_
            refine post_rets (rs := [.cell 4 84]) rfl (resC (resIs_cell 4 rfl rfl ty84 rfl) (resN)) ?_
            subst_vars; rfl
          ·
            have hk5 : ¬ kindOf (srcR L (i + 2) 8) = 5 := by have := of_decide_eq_false hc55_2; rw [hr19] at this; exact this
            rw [jointOf_tu hk0 (by omega)]
            first | rw [jBase_a hp hi, jQ_pos hi] | rw [jBase_b hp hi, jQ_neg hi] | rw [jBase_c hp hi, jQ_pos hi] | rw [jBase_d hp hi, jQ_neg hi]
            refine doC_region ?_
            refine doL_v (opV_move rfl) rfl rfl rfl ?_
            refine doL_srcA (F := vI) hs en24 rfl (fun w' h => srcNext _ (by first | omega | assumption | (unfold In64; omega) | decide) w' h) rfl rfl ?_; intro r39 hr39
            have br39 := srcR_b hr39 (by first | decide | omega)
            refine doL_v (opV_neg rfl (by first | exact neg_in ⟨by omega, by omega⟩ | rfl)) rfl rfl rfl ?_
            refine doL_v (opV_mul rfl rfl (by first | exact i64_in ⟨by omega, by omega⟩ | rfl)) rfl rfl rfl ?_
            refine doL_v (opV_quo rfl rfl (by first | decide | omega) (quo8 (by omega))) rfl rfl rfl ?_
            refine doL_v (opV_move rfl) rfl rfl rfl ?_
            refine doL_srcA (F := vI) hs en24 rfl (fun w' h => srcNext _ (by first | omega | assumption | (unfold In64; omega) | decide) w' h) rfl rfl ?_; intro r44 hr44
            have br44 := srcR_b hr44 (by first | decide | omega)
            refine doL_v (opV_add rfl rfl (by first | exact i64_in ⟨by omega, by omega⟩ | rfl)) rfl rfl rfl ?_
            refine doL_v (opV_mul rfl rfl (by first | exact i64_in ⟨by omega, by omega⟩ | rfl)) rfl rfl rfl ?_
            refine doL_v (opV_quo rfl rfl (by first | decide | omega) (quo8 (by omega))) rfl rfl rfl ?_
            refine doL_v (opV_move rfl) rfl rfl rfl ?_
            refine doL_srcA (F := vI) hs en24 rfl (fun w' h => srcNext _ (by first | omega | assumption | (unfold In64; omega) | decide) w' h) rfl rfl ?_; intro r49 hr49
            have br49 := srcR_b hr49 (by first | decide | omega)
            refine doL_v (opV_add rfl rfl (hi8 br44 br49)) rfl rfl rfl ?_
            refine doL_v (opV_fieldAddr fa84_4 rfl) rfl rfl rfl ?_
            refine doL_store 5 ty2 rfl rfl rfl rfl rfl rfl rfl rfl ?_
            refine doL_v (opV_fieldAddr fa84_5 rfl) rfl rfl rfl ?_
            refine doL_store 5 ty2 rfl rfl rfl rfl rfl rfl rfl rfl ?_
            refine doL_nil ?_
            refine post_block_normal ?_
            refine post_then ?_
            refine doC_seq ?_
            refine doC_region ?_
            refine doL_v (opV_loadA 5 ty84 rfl rfl rfl) rfl rfl rfl ?_
            refine doL_store 4 ty84 rfl rfl rfl rfl rfl rfl rfl rfl ?_
            refine doL_nil ?_
            refine post_then ?_
            refine doC_ret ?_
            refine post_rets (rs := [.cell 4 84]) rfl (resC (resIs_cell 4 rfl rfl ty84 rfl) (resN)) ?_
            subst_vars; rfl
end Go.Proofs.YtonampcmhhhffaaGreat
namespace Go.Proofs.YtonampcmhhhffaaGreat
open Go.Sx
theorem ze26 : zeroIs Tryz.prog 26 (.agg #[.slice none 0 0, .slice none 0 0]) := by unfold zeroIs; kernel_rfl
theorem fa26_0 : fieldB Tryz.prog 26 0 0 = true := by kernel_rfl
theorem ty23 : tyB Tryz.prog 23 false 1 = true := by kernel_rfl
theorem en48 : Enters Tryz.prog 48 := enters_of Tryz.func48 (by kernel_rfl) (by kernel_rfl)
theorem sl23 : slcB Tryz.prog 23 84 12 = true := by kernel_rfl
theorem app23 : appB Tryz.prog 23 84 12 104 = true := by kernel_rfl
theorem fa26_1 : fieldB Tryz.prog 26 1 1 = true := by kernel_rfl
theorem ty24 : tyB Tryz.prog 24 false 1 = true := by kernel_rfl
theorem la101 : layoutOf Tryz.prog 101 = some ([.int .i64 0, .int .i64 0, .int .i64 0, .int .i64 0, .int .i64 0], [(0, 1), (1, 1), (2, 3)]) := by kernel_rfl
theorem sl24 : slcB Tryz.prog 24 101 5 = true := by kernel_rfl
theorem ze101 : zeroIs Tryz.prog 101 (.agg #[.int .i64 0, .int .i64 0, .int .i64 0, .int .i64 0, .int .i64 0]) := by unfold zeroIs; kernel_rfl
theorem app24 : appB Tryz.prog 24 101 5 40 = true := by kernel_rfl
theorem ty26 : tyB Tryz.prog 26 true 2 = true := by kernel_rfl
theorem inc_nat {k : Nat} (h : k ≤ 1000000) : IntKind.i64.wrap ((k : Int) + 1) = ((k + 1 : Nat) : Int) := by
  refine (i64_in ?_).trans ?_ <;> omega
theorem mkRobot {b : Nat} {sl : Value} {L : List Int} {i : Nat} (w : World) (hs : Src w b sl L i) : Calls Tryz.prog 23 [.pointer (some ⟨b, 0, none⟩)].toArray w (RetsF (X := (Option Addr × Nat) × (Option Addr × Nat)) (fun _ => True) (fun x => .agg #[.slice x.1.1 (nJ L i) x.1.2, .slice x.2.1 (nM L i) x.2.2]) (fun x w => SlcIs 12 x.1.1 ((jsOf L i (nJ L i)).1.map jc) w ∧ SlcIs 5 x.2.1 ((msOf L i (nM L i)).map mc) w) (srcW w b sl L (robQ L i))) := by
  refine calls_src (n := 49) hs Tryz.func23 rfl rfl rfl ?_
  refine doC_seq ?_
  refine doC_region ?_
  refine doL_alloc 2 ze26 rfl rfl rfl ?_; intro b2
  refine doL_nil ?_
  refine post_then ?_
  refine doC_seq ?_
  refine doC_region ?_
  refine doL_alloc 3 ze26 rfl rfl rfl ?_; intro b3
  refine doL_nil ?_
  refine post_then ?_
  refine doC_seq ?_
  refine doC_ownA 100 84 12 ?_
  refine doC_ownA 101 101 5 ?_
  have hn := nJ_b L i
  have hm := nM_b L i
  refine doC_region ?_
  refine doL_v (opV_move rfl) rfl rfl rfl ?_
  refine doL_srcA (F := vI) hs en24 rfl (fun w' h => srcNext _ (by first | omega | assumption | (unfold In64; omega) | decide) w' h) rfl rfl ?_; intro r8 hr8
  have br8 := srcR_b hr8 (by first | decide | omega)
  refine doL_v (opV_add rfl rfl (by first | exact i64_in ⟨by omega, by omega⟩ | rfl)) rfl rfl rfl ?_
  refine doL_v (opV_assign rfl) rfl rfl rfl ?_
  refine doL_nil ?_
  refine post_then ?_
  refine doC_seq ?_
  refine doC_seq ?_
  refine doC_region ?_
  refine doL_v (opV_assign rfl) rfl rfl rfl ?_
  refine doL_nil ?_
  refine post_then ?_
  refine doC_block ?_
  refine doC_loopK [0, 2, 3, 4] [2] (α := Nat × Option Addr × Nat) (fun x => nJ L i - x.1) (fun x => x.1 ≤ nJ L i) (fun x => srcB ⟨w, [(101, ownD none, OwnF 0 101 5 none 0 0 []), (100, ownD x.2.1, OwnF 0 84 12 x.2.1 x.2.2 x.1 (jsC L i x.1))]⟩ b sl L (jsOf L i x.1).2) (fun x => [(5, .int .i64 (x.1 : Int))]) (fun x => [(3, b3, [.slice x.2.1 x.1 x.2.2, .slice none 0 0], 26)]) (0, none, 0) rfl rfl ?_ ?_ ?_ ?_ rfl ?_
  ·
    exact Nat.zero_le _
  ·
    exact rfl
  ·
    repeat' first | exact trivial | exact True.intro | refine ⟨rfl, ?_⟩
  ·
    repeat' first | exact trivial | exact True.intro | refine ⟨rfl, ?_⟩
  rintro ⟨k, a, cap⟩ hk
  dsimp only at hk ⊢
  refine doC_seq ?_
  refine doC_seq ?_
  refine doC_region ?_
  refine doL_v (opV_move rfl) rfl rfl rfl ?_
  refine doL_v (opV_move rfl) rfl rfl rfl ?_
  refine doL_v (opV_lss rfl rfl) rfl rfl rfl ?_
  refine doL_nil ?_
  refine post_then ?_
  refine doC_cond rfl (fun hc12 => ?_) (fun hc12 => ?_)
  ·
    have h2 : k < nJ L i := by have := of_decide_eq_true hc12; omega
    refine doC_skip ?_
    refine post_then ?_
    refine doC_seq ?_
    refine doC_block ?_
    refine doC_srcA 6 [4] hs mo (by kernel_rfl) ?_
    simp only [List.take_succ_cons, List.take_zero, List.drop_succ_cons, List.drop_zero]
    refine doM_v (fun _ => opV_fieldAddr fa26_0 rfl) rfl rfl rfl rfl ?_
    refine doM_v (fun _ => opV_load1 3 ty23 rfl rfl rfl) rfl rfl rfl rfl ?_
    refine doM_v (fun _ => opV_move rfl) rfl rfl rfl rfl ?_
    refine doM_v (fun _ => opV_move rfl) rfl rfl rfl rfl ?_
    refine doM_srcA (F := jv) hs en48 rfl (fun w' h => mkJoint _ (by first | omega | assumption | (unfold In64; omega) | decide) w' h) rfl rfl rfl ?_; intro r19 hr19
    refine doM_bslice (famA hs _) sl23 ze84 rfl rfl rfl rfl rfl rfl rfl rfl rfl rfl ?_
    refine doM_nil ?_
    refine tail_row ?_; intro bb20
    refine tail_appendA 100 app23 rfl rfl rfl rfl rfl rfl (by omega) (by omega) rfl rfl ?_; intro a21 c21 R21 hR21
    obtain rfl := Option.some.inj hR21
    refine doL_v (opV_fieldAddr fa26_0 rfl) rfl rfl rfl ?_
    refine doL_store 3 ty23 rfl rfl rfl rfl rfl rfl rfl rfl ?_
    refine doL_nil ?_
    refine post_block_normal ?_
    refine post_then ?_
    refine doC_region ?_
    refine doL_v (opV_move rfl) rfl rfl rfl ?_
    refine doL_v (opV_add rfl rfl (inc_nat (by omega))) rfl rfl rfl ?_
    refine doL_v (opV_assign rfl) rfl rfl rfl ?_
    refine doL_nil ?_
    refine post_again (k + 1, a21, c21) (by show k + 1 ≤ _; omega) (by show nJ L i - (k + 1) < nJ L i - k; omega) (by dsimp only; rw [jsC_succ, ← hr19]; rfl) ?_ ?_ rfl
    repeat' first | exact trivial | exact True.intro | refine ⟨rfl, ?_⟩
  ·
    obtain rfl : k = nJ L i := by have := of_decide_eq_false hc12; omega
    refine doC_exit ?_
    refine post_then_exit ?_
    refine post_then_exit ?_
    refine post_block_exit ?_
    refine post_then ?_
    refine doC_seq ?_
    refine doC_seq ?_
    refine doC_region ?_
    refine doL_v (opV_move rfl) rfl rfl rfl ?_
    refine doL_srcA (F := vI) hs en24 rfl (fun w' h => srcNext _ (by first | omega | assumption | (unfold In64; omega) | decide) w' h) rfl rfl ?_; intro r24 hr24
    have br24 := srcR_b hr24 (by first | decide | omega)
    obtain rfl : r24 = ((nM L i : Nat) : Int) := by rw [hr24]; exact hm.2.symm
    refine doL_v (opV_assign rfl) rfl rfl rfl ?_
    refine doL_nil ?_
    refine post_then ?_
    refine doC_block ?_
    refine doC_loopK [0, 2, 3, 4] [2] (α := Nat × Option Addr × Nat) (fun x => nM L i - x.1) (fun x => x.1 ≤ nM L i) (fun x => srcB ⟨w, [(101, ownD x.2.1, OwnF 0 101 5 x.2.1 x.2.2 x.1 (msC L i x.1)), (100, ownD a, OwnF 0 84 12 a cap (nJ L i) (jsC L i (nJ L i)))]⟩ b sl L (mQ L i + 1 + 4 * x.1)) (fun x => [(6, .int .i64 ((nM L i - x.1 : Nat) : Int))]) (fun x => [(3, b3, [.slice a (nJ L i) cap, .slice x.2.1 x.1 x.2.2], 26)]) (0, none, 0) rfl rfl ?_ ?_ ?_ ?_ rfl ?_
    ·
      exact Nat.zero_le _
    ·
      exact rfl
    ·
      repeat' first | exact trivial | exact True.intro | refine ⟨rfl, ?_⟩
    ·
      repeat' first | exact trivial | exact True.intro | refine ⟨rfl, ?_⟩
    rintro ⟨k2, a2, cap2⟩ hk2
    dsimp only at hk2 ⊢
    refine doC_seq ?_
    refine doC_seq ?_
    refine doC_region ?_
    refine doL_v (opV_move rfl) rfl rfl rfl ?_
    refine doL_v (opV_gtr rfl rfl) rfl rfl rfl ?_
    refine doL_nil ?_
    refine post_then ?_
    refine doC_cond rfl (fun hc26 => ?_) (fun hc26 => ?_)
    ·
      have h3 : k2 < nM L i := by have := of_decide_eq_true hc26; omega
      refine doC_skip ?_
      refine post_then ?_
      refine doC_seq ?_
      refine doC_block ?_
      refine doC_srcA 17 [4, 6, 9, 12] hs mo (by kernel_rfl) ?_
      simp only [List.take_succ_cons, List.take_zero, List.drop_succ_cons, List.drop_zero]
      refine doM_v (fun _ => opV_fieldAddr fa26_1 rfl) rfl rfl rfl rfl ?_
      refine doM_v (fun _ => opV_load1 3 ty24 rfl rfl rfl) rfl rfl rfl rfl ?_
      refine doM_v (fun _ => opV_move rfl) rfl rfl rfl rfl ?_
      refine doM_v (fun _ => opV_move rfl) rfl rfl rfl rfl ?_
      refine doM_srcA (F := vI) hs en24 rfl (fun w' h => srcNext _ (by first | omega | assumption | (unfold In64; omega) | decide) w' h) rfl rfl rfl ?_; intro r33 hr33
      have br33 := srcR_b hr33 (by first | decide | omega)
      refine doM_v (fun _ => opV_move rfl) rfl rfl rfl rfl ?_
      refine doM_srcA (F := vI) hs en24 rfl (fun w' h => srcNext _ (by first | omega | assumption | (unfold In64; omega) | decide) w' h) rfl rfl rfl ?_; intro r35 hr35
      have br35 := srcR_b hr35 (by first | decide | omega)
      refine doM_v (fun _ => opV_add rfl rfl (by first | exact i64_in ⟨by omega, by omega⟩ | rfl)) rfl rfl rfl rfl ?_
      refine doM_v (fun _ => opV_move rfl) rfl rfl rfl rfl ?_
      refine doM_srcA (F := vI) hs en26 rfl (fun w' h => srcSigned _ (by first | omega | assumption | (unfold In64; omega) | decide) w' h) rfl rfl rfl ?_; intro r38 hr38
      have br38 := srcS_b hr38 (by first | decide | omega)
      refine doM_v (fun _ => opV_mul rfl rfl (by first | exact i64_in ⟨by omega, by omega⟩ | rfl)) rfl rfl rfl rfl ?_
      refine doM_v (fun _ => opV_move rfl) rfl rfl rfl rfl ?_
      refine doM_srcA (F := vI) hs en26 rfl (fun w' h => srcSigned _ (by first | omega | assumption | (unfold In64; omega) | decide) w' h) rfl rfl rfl ?_; intro r41 hr41
      have br41 := srcS_b hr41 (by first | decide | omega)
      refine doM_v (fun _ => opV_mul rfl rfl (by first | exact i64_in ⟨by omega, by omega⟩ | rfl)) rfl rfl rfl rfl ?_
      refine doM_v (fun _ => opV_build la50 rfl rfl) rfl rfl rfl rfl ?_
      refine doM_v (fun _ => opV_build la101 rfl rfl) rfl rfl rfl rfl ?_
      refine doM_bslice (famA hs _) sl24 ze101 rfl rfl rfl rfl rfl rfl rfl rfl rfl rfl ?_
      refine doM_nil ?_
      refine tail_row ?_; intro bb45
      refine tail_appendA 101 app24 rfl rfl rfl rfl rfl rfl (by omega) (by omega) rfl rfl ?_; intro a46 c46 R46 hR46
      obtain rfl := Option.some.inj hR46
      refine doL_v (opV_fieldAddr fa26_1 rfl) rfl rfl rfl ?_
      refine doL_store 3 ty24 rfl rfl rfl rfl rfl rfl rfl rfl ?_
      refine doL_nil ?_
      refine post_block_normal ?_
      refine post_then ?_
      refine doC_region ?_
      refine doL_v (opV_move rfl) rfl rfl rfl ?_
      refine doL_v (opV_sub rfl rfl (dec_rem (by omega) h3)) rfl rfl rfl ?_
      refine doL_v (opV_assign rfl) rfl rfl rfl ?_
      refine doL_nil ?_
      refine post_again (k2 + 1, a46, c46) (by show k2 + 1 ≤ _; omega) (by show nM L i - (k2 + 1) < nM L i - k2; omega) (by dsimp only; rw [msC_succ, hr33, hr35, hr38, hr41, hr8, hn.2.2]; rfl) ?_ ?_ rfl
      repeat' first | exact trivial | exact True.intro | refine ⟨rfl, ?_⟩
    ·
      obtain rfl : k2 = nM L i := by have := of_decide_eq_false hc26; omega
      refine doC_exit ?_
      refine post_then_exit ?_
      refine post_then_exit ?_
      refine post_block_exit ?_
      refine post_then ?_
      refine doC_seq ?_
      refine doC_region ?_
      refine doL_v (opV_loadA 3 ty26 rfl rfl rfl) rfl rfl rfl ?_
      refine doL_store 2 ty26 rfl rfl rfl rfl rfl rfl rfl rfl ?_
      refine doL_nil ?_
      refine post_then ?_
      refine doC_ret ?_
      refine post_ret (rs := [.cell 2 26]) rfl (resC (resIs_cell 2 rfl rfl ty26 rfl) (resN)) rfl ?_
      intro w2 kn
      obtain ⟨_, q2, q3⟩ := kn.facts _ List.mem_cons_self
      obtain ⟨_, q5, q6⟩ := kn.facts _ (List.mem_cons_of_mem _ List.mem_cons_self)
      exact ⟨((a, cap), (a2, cap2)), trivial, rfl, kn.grow, told_and ⟨ownD a, slc_dep _ _ _, fun q hq => ⟨(q5 q hq).1, (q5 q hq).2.1⟩, js_slc q6⟩ ⟨ownD a2, slc_dep _ _ _, fun q hq => ⟨(q2 q hq).1, (q2 q hq).2.1⟩, ms_slc q3⟩⟩
end Go.Proofs.YtonampcmhhhffaaGreat
namespace Go.Proofs.YtonampcmhhhffaaGreat
open Go.Sx
theorem ze30 : zeroIs Tryz.prog 30 (.agg #[.slice none 0 0, .slice none 0 0, .slice none 0 0, .slice none 0 0]) := by unfold zeroIs; kernel_rfl
theorem en22 : Enters Tryz.prog 22 := enters_of Tryz.func22 (by kernel_rfl) (by kernel_rfl)
theorem en23 : Enters Tryz.prog 23 := enters_of Tryz.func23 (by kernel_rfl) (by kernel_rfl)
theorem la30 : layoutOf Tryz.prog 30 = some ([.slice none 0 0, .slice none 0 0, .slice none 0 0, .slice none 0 0], [(0, 2), (2, 1), (3, 1)]) := by kernel_rfl
theorem ty30 : tyB Tryz.prog 30 true 4 = true := by kernel_rfl
theorem fa30_0 : fieldB Tryz.prog 30 0 0 = true := by kernel_rfl
theorem fa30_1 : fieldB Tryz.prog 30 1 2 = true := by kernel_rfl
theorem ty27 : tyB Tryz.prog 27 false 1 = true := by kernel_rfl
theorem en25 : Enters Tryz.prog 25 := enters_of Tryz.func25 (by kernel_rfl) (by kernel_rfl)
theorem la41 : layoutOf Tryz.prog 41 = some ([.int .i64 0, .int .i64 0, .slice none 0 0], [(0, 1), (1, 1), (2, 1)]) := by kernel_rfl
theorem sl27 : slcB Tryz.prog 27 41 3 = true := by kernel_rfl
theorem ze41 : zeroIs Tryz.prog 41 (.agg #[.int .i64 0, .int .i64 0, .slice none 0 0]) := by unfold zeroIs; kernel_rfl
theorem app27 : appB Tryz.prog 27 41 3 40 = true := by kernel_rfl
theorem fa30_2 : fieldB Tryz.prog 30 2 3 = true := by kernel_rfl
theorem ty28 : tyB Tryz.prog 28 false 1 = true := by kernel_rfl
theorem la76 : layoutOf Tryz.prog 76 = some ([.int .i64 0, .int .i64 0], [(0, 1), (1, 1)]) := by kernel_rfl
theorem sl28 : slcB Tryz.prog 28 76 2 = true := by kernel_rfl
theorem ze76 : zeroIs Tryz.prog 76 (.agg #[.int .i64 0, .int .i64 0]) := by unfold zeroIs; kernel_rfl
theorem app28 : appB Tryz.prog 28 76 2 16 = true := by kernel_rfl
theorem ob_val {x : Int} {n : Nat} (h : x = (n : Int)) (hn : n ≤ 1000) : IntKind.i64.wrap x = (n : Int) := by
  rw [h]; exact i64_in (by omega)
theorem rad8 {a : Int} (ha : 0 ≤ a ∧ a < 4) : IntKind.i64.wrap (((1 + a) * 65536).tdiv 8) = ((1 + a) * 65536).tdiv 8 := i64_in (by
  rw [Int.tdiv_eq_ediv_of_nonneg (by omega)]; omega)
theorem scene_end {l : List Int} {w w2 : World} {aj am a ak : Option Addr} {cj cm cap cs m q ns : Nat} {ss : List Sp} {ds : List Ad} {rows : List (List Value)} (hsh : shB l (obN l) = (ss, q)) (hm : m = ss.length) (hl : ds.length = m) (hs : skN l = ns ∧ skR l = rows) (hg : Grow w w2)
    (h1 : Go.Sx.Told w.heap.size (fun w => SlcIs 12 aj ((jsOf l 0 (nJ l 0)).1.map jc) w ∧ SlcIs 5 am ((msOf l 0 (nM l 0)).map mc) w) w2) (h2 : Go.Sx.Told w.heap.size (SlcIs 3 a (spRows ss ds)) w2) (h3 : Go.Sx.Told w.heap.size (PtsF ss ds) w2) (h4 : Go.Sx.Told w.heap.size (SlcIs 2 ak rows) w2) :
    RetsF (X := ScX) (scP l) (scV l) (scF l) w (.returned (.agg #[.slice aj (nJ l 0) cj, .slice am (nM l 0) cm, .slice a m cap, .slice ak ns cs])) w2 := by
  refine ⟨((aj, cj), (am, cm), (a, cap), (ak, cs), ds), ?_, ?_, hg, ?_⟩
  · show ds.length = (shB l (obN l)).1.length
    rw [hsh, hl, hm]
  · show _ = Ending.returned (scV l _)
    unfold scV
    rw [hsh, hs.1, hm]
  · have e : scF l ((aj, cj), (am, cm), (a, cap), (ak, cs), ds) = fun w => (SlcIs 12 aj ((jsOf l 0 (nJ l 0)).1.map jc) w ∧ SlcIs 5 am ((msOf l 0 (nM l 0)).map mc) w) ∧ (SlcIs 3 a (spRows ss ds) w ∧ PtsF ss ds w) ∧ SlcIs 2 ak rows w := by
      unfold scF
      rw [hsh, hs.2]
    rw [e]
    exact told_and h1 (told_and (told_and h2 h3) h4)
theorem own2_slc {a : Option Addr} {cap : Nat} {e : TypeId} {w : World} {x y : Value} (h : OwnF 0 e 2 a cap 1 [x, y] w) : SlcIs 2 a [[x, y]] w := own_slc (m := 0) (e := e) (cap := cap) (by simp) h
theorem slc_nil {sz : Nat} {a : Option Addr} (w : World) : SlcIs sz a [] w := fun j r h => by simp at h
theorem mkScene (lv : Value) (l : List Int) (w : World) (hl : IntsAt w w.heap.size lv l) : Calls Tryz.prog 6 [lv].toArray w (RetsF (X := ScX) (scP l) (scV l) (scF l) w) := by
  refine calls_of_doC (n := 89) Tryz.func6 rfl rfl rfl ?_
  refine doC_seq ?_
  refine doC_region ?_
  refine doL_alloc 2 ze30 rfl rfl rfl ?_; intro b2
  refine doL_nil ?_
  refine post_then ?_
  refine doC_seq ?_
  refine doC_region ?_
  refine doL_v (opV_move rfl) rfl rfl rfl ?_
  refine doL_callNew 9 en22 rfl (fun w' k => mFrom w' (intsAt_grow hl k.grow (Nat.le_refl _))) rfl rfl ?_; intro b9
  refine doL_v (opV_assign rfl) rfl rfl rfl ?_
  refine doL_nil ?_
  refine post_then ?_
  refine doC_seq ?_
  refine doC_region ?_
  refine doL_v (opV_move rfl) rfl rfl rfl ?_
  refine doL_toldB 11 9 hl rfl en23 rfl (fun w' h => mkRobot   w' h) rfl rfl rfl ?_; intro x11 Dx11 _
  obtain ⟨⟨aj, cj⟩, am, cm⟩ := x11
  dsimp only
  refine doL_v (opV_build la30 rfl rfl) rfl rfl rfl ?_
  refine doL_alloc 4 ze30 rfl rfl rfl ?_; intro b4
  refine doL_store 4 ty30 rfl rfl rfl rfl rfl rfl rfl rfl ?_
  refine doL_nil ?_
  refine post_then ?_
  refine doC_seq ?_
  refine doC_seq ?_
  refine doC_own 301 76 2 ?_
  refine doC_own 300 41 3 ?_
  refine doC_fact 200 (PtsF [] []) (fun _ => trivial) ?_
  have hn := nJ_b l 0
  have hob := obN_b l
  refine doC_region ?_
  refine doL_v (opV_assign rfl) rfl rfl rfl ?_
  refine doL_nil ?_
  refine post_then ?_
  refine doC_block ?_
  refine doC_loopK [2, 3, 4] [2] (α := Nat × Nat × Nat × Ad × List Sp × List Ad × (Nat → Prop)) (fun x => nJ l 0 - x.1) (fun x => x.1 ≤ nJ l 0 ∧ shA l x.1 = (x.2.2.2.2.1, x.2.2.1) ∧ x.2.1 = x.2.2.2.2.1.length ∧ x.2.2.2.2.2.1.length = x.2.1) (fun x => ⟨w, [(200, x.2.2.2.2.2.2, PtsF x.2.2.2.2.1 x.2.2.2.2.2.1), (300, ownD x.2.2.2.1.1, OwnF 0 41 3 x.2.2.2.1.1 x.2.2.2.1.2 x.2.1 (spC x.2.2.2.2.1 x.2.2.2.2.2.1)), (301, ownD none, OwnF 0 76 2 none 0 0 []), (11, Dx11, fun w => SlcIs 12 aj ((jsOf l 0 (nJ l 0)).1.map jc) w ∧ SlcIs 5 am ((msOf l 0 (nM l 0)).map mc) w)]⟩) (fun x => [(5, .int .i64 (x.1 : Int))]) (fun x => [(9, b9, srcC lv l x.2.2.1, 98), (4, b4, [.slice aj (nJ l 0) cj, .slice am (nM l 0) cm, .slice x.2.2.2.1.1 x.2.1 x.2.2.2.1.2, .slice none 0 0], 30)]) (0, 0, robQ l 0, (none, 0), [], [], fun _ => False) rfl rfl ?_ ?_ ?_ ?_ rfl ?_
  ·
    exact ⟨Nat.zero_le _, rfl, rfl, rfl⟩
  ·
    exact rfl
  ·
    repeat' first | exact trivial | exact True.intro | refine ⟨rfl, ?_⟩
  ·
    repeat' first | exact trivial | exact True.intro | refine ⟨rfl, ?_⟩
  rintro ⟨k, m, q, ⟨a, cap⟩, ss, ds, D⟩ ⟨hk, hsh, hm, hlen⟩
  dsimp only at hk hsh hm hlen ⊢
  have hsl := shA_len l k
  rw [hsh] at hsl
  dsimp only at hsl
  refine doC_seq ?_
  refine doC_seq ?_
  refine doC_region ?_
  refine doL_v (opV_move rfl) rfl rfl rfl ?_
  refine doL_v (opV_fieldAddr fa30_0 rfl) rfl rfl rfl ?_
  refine doL_v (opV_fieldAddr fa26_0 rfl) rfl rfl rfl ?_
  refine doL_v (opV_load1 4 ty23 rfl rfl rfl) rfl rfl rfl ?_
  refine doL_v (opV_len_slice sl23 rfl) rfl rfl rfl ?_
  refine doL_v (opV_lss rfl rfl) rfl rfl rfl ?_
  refine doL_nil ?_
  refine post_then ?_
  refine doC_cond rfl (fun hc18 => ?_) (fun hc18 => ?_)
  ·
    have h2 : k < nJ l 0 := by have := of_decide_eq_true hc18; omega
    refine doC_skip ?_
    refine post_then ?_
    refine doC_seq ?_
    refine doC_block ?_
    refine doC_seq ?_
    refine doC_region ?_
    refine doL_v (opV_move rfl) rfl rfl rfl ?_
    refine doL_srcB (F := vI) 9 hl rfl en24 rfl (fun w' h => srcNext _ (by first | omega | assumption | (unfold In64; omega) | decide) w' h) rfl rfl rfl ?_; intro r22 hr22
    have br22 := srcR_b hr22 (by first | decide | omega)
    refine doL_v (opV_lss rfl rfl) rfl rfl rfl ?_
    refine doL_nil ?_
    refine post_then ?_
    refine doC_cond rfl (fun hc23 => ?_) (fun hc23 => ?_)
    ·
      have h5 : srcR l q 5 < 4 := by have := of_decide_eq_true hc23; rw [hr22] at this; exact this
      refine doC_srcB 9 16 [4, 10, 13] rfl mo (by kernel_rfl) ?_
      simp only [List.take_succ_cons, List.take_zero, List.drop_succ_cons, List.drop_zero]
      refine doM_v (fun _ => opV_fieldAddr fa30_1 rfl) rfl rfl rfl rfl ?_
      refine doM_v (fun _ => opV_load1 4 ty27 rfl rfl rfl) rfl rfl rfl rfl ?_
      refine doM_v (fun _ => opV_move rfl) rfl rfl rfl rfl ?_
      refine doM_v (fun _ => opV_move rfl) rfl rfl rfl rfl ?_
      refine doM_srcB (F := vI) 9 hl rfl en24 rfl (fun w' h => srcNext _ (by first | omega | assumption | (unfold In64; omega) | decide) w' h) rfl rfl rfl ?_; intro r28 hr28
      have br28 := srcR_b hr28 (by first | decide | omega)
      refine doM_v (fun _ => opV_add rfl rfl (by first | exact i64_in ⟨by omega, by omega⟩ | rfl)) rfl rfl rfl rfl ?_
      refine doM_v (fun _ => opV_mul rfl rfl (by first | exact i64_in ⟨by omega, by omega⟩ | rfl)) rfl rfl rfl rfl ?_
      refine doM_v (fun _ => opV_quo rfl rfl (by first | decide | omega) (rad8 (by omega))) rfl rfl rfl rfl ?_
      refine doM_v (fun _ => opV_move rfl) rfl rfl rfl rfl ?_
      refine doM_v (fun _ => opV_move rfl) rfl rfl rfl rfl ?_
      refine doM_srcB (F := vI) 9 hl rfl en24 rfl (fun w' h => srcNext _ (by first | omega | assumption | (unfold In64; omega) | decide) w' h) rfl rfl rfl ?_; intro r34 hr34
      have br34 := srcR_b hr34 (by first | decide | omega)
      refine doM_v (fun _ => opV_mul rfl rfl (by first | exact i64_in ⟨by omega, by omega⟩ | rfl)) rfl rfl rfl rfl ?_
      refine doM_v (fun _ => opV_build la50 rfl rfl) rfl rfl rfl rfl ?_
      refine doM_toldB 9 hl rfl en25 rfl (fun w' h => mkPoints _ _ _ (by first | omega | assumption | (unfold In64; omega) | decide) w' h) rfl rfl rfl rfl ?_
      refine doM_map (T := fun _ _ => True) (famB (id := 9) rfl) 37 rfl rfl (fun _ x _ => opV_build la41 rfl rfl) (fun _ => rfl) (by decide) rfl rfl rfl rfl ?_
      refine doM_rowmap (famB (id := 9) rfl) 38 rfl sl27 ze41 rfl rfl rfl rfl (fun _ => rfl) (fun _ => rfl) (fun _ => rfl) (by decide) rfl rfl rfl ?_
      refine doM_nil ?_
      refine tail_heap rfl ?_
      refine tail_tellrow 39 rfl rfl rfl ?_; intro x39 D39 bb39 _
      refine tail_append 300 app27 rfl rfl rfl rfl rfl rfl (by omega) (by omega) rfl rfl ?_; intro a40 c40 R40 hR40
      obtain rfl := Option.some.inj hR40
      refine doL_v (opV_fieldAddr fa30_1 rfl) rfl rfl rfl ?_
      refine doL_store 4 ty27 rfl rfl rfl rfl rfl rfl rfl rfl ?_
      refine doL_nil ?_
      refine post_block_normal ?_
      refine post_then ?_
      try (subst hr28; subst hr34; refine doC_merge 200 (PtsF (ss ++ [linkSp l q k]) (ds ++ [x39])) rfl rfl (fun h1 h2 => PtsF_dep (s := linkSp l q k) (hlen.trans hm) h1 h2) (fun w h1 h2 => PtsF_snoc ss ds (linkSp l q k) x39 w (hlen.trans hm) h2 h1) ?_)
      refine doC_region ?_
      refine doL_v (opV_move rfl) rfl rfl rfl ?_
      refine doL_v (opV_add rfl rfl (inc_nat (by omega))) rfl rfl rfl ?_
      refine doL_v (opV_assign rfl) rfl rfl rfl ?_
      refine doL_nil ?_
      refine post_again (k + 1, m + 1, q + 1 + 1 + 1 + 1 + 3 * ptsN l (q + 1 + 1 + 1), (a40, c40), ss ++ [linkSp l q k], ds ++ [x39], fun z => D39 z ∨ D z) (by refine ⟨?_, ?_, ?_, ?_⟩ <;> dsimp only; omega; rw [shA_t (by rw [hsh]; exact h5), hsh]; simp [hm]; simp [hlen]) (by show nJ l 0 - (k + 1) < nJ l 0 - k; omega) (by dsimp only; rw [spC_snoc _ _ (hlen.trans hm)]; simp only [spc, linkSp, ptsOf_len]; rfl) ?_ ?_ rfl
      repeat' first | exact trivial | exact True.intro | refine ⟨rfl, ?_⟩
    ·
      have h5 : ¬ srcR l q 5 < 4 := by have := of_decide_eq_false hc23; rw [hr22] at this; exact this
      refine doC_skip ?_
      refine post_block_normal ?_
      refine post_then ?_
      try (subst hr28; subst hr34; refine doC_merge 200 (PtsF (ss ++ [linkSp l q k]) (ds ++ [x39])) rfl rfl (fun h1 h2 => PtsF_dep (s := linkSp l q k) (hlen.trans hm) h1 h2) (fun w h1 h2 => PtsF_snoc ss ds (linkSp l q k) x39 w (hlen.trans hm) h2 h1) ?_)
      refine doC_region ?_
      refine doL_v (opV_move rfl) rfl rfl rfl ?_
      refine doL_v (opV_add rfl rfl (inc_nat (by omega))) rfl rfl rfl ?_
      refine doL_v (opV_assign rfl) rfl rfl rfl ?_
      refine doL_nil ?_
      refine post_again (k + 1, m, q + 1, (a, cap), ss, ds, D) (by refine ⟨?_, ?_, ?_, ?_⟩ <;> dsimp only; omega; rw [shA_f (by rw [hsh]; exact h5), hsh]; exact hm; exact hlen) (by show nJ l 0 - (k + 1) < nJ l 0 - k; omega) rfl ?_ ?_ rfl
      repeat' first | exact trivial | exact True.intro | refine ⟨rfl, ?_⟩
  ·
    obtain rfl : k = nJ l 0 := by have := of_decide_eq_false hc18; omega
    refine doC_exit ?_
    refine post_then_exit ?_
    refine post_then_exit ?_
    refine post_block_exit ?_
    refine post_then ?_
    refine doC_seq ?_
    refine doC_seq ?_
    refine doC_region ?_
    refine doL_v (opV_move rfl) rfl rfl rfl ?_
    refine doL_srcB (F := vI) 9 hl rfl en24 rfl (fun w' h => srcNext _ (by first | omega | assumption | (unfold In64; omega) | decide) w' h) rfl rfl rfl ?_; intro r43 hr43
    have br43 := srcR_b hr43 (by first | decide | omega)
    obtain rfl : r43 = srcR l q 3 := hr43
    have hob2 : 1 + srcR l q 3 = ((obN l : Nat) : Int) := by have := hob.2.2; rw [hsh] at this; exact this.symm
    refine doL_v (opV_add rfl rfl (ob_val hob2 (by omega))) rfl rfl rfl ?_
    refine doL_v (opV_assign rfl) rfl rfl rfl ?_
    refine doL_nil ?_
    refine post_then ?_
    refine doC_block ?_
    refine doC_loopK [2, 3, 4] [2] (α := Nat × Nat × Nat × Ad × List Sp × List Ad × (Nat → Prop)) (fun x => obN l - x.1) (fun x => x.1 ≤ obN l ∧ shB l x.1 = (x.2.2.2.2.1, x.2.2.1) ∧ x.2.1 = x.2.2.2.2.1.length ∧ x.2.2.2.2.2.1.length = x.2.1) (fun x => ⟨w, [(200, x.2.2.2.2.2.2, PtsF x.2.2.2.2.1 x.2.2.2.2.2.1), (300, ownD x.2.2.2.1.1, OwnF 0 41 3 x.2.2.2.1.1 x.2.2.2.1.2 x.2.1 (spC x.2.2.2.2.1 x.2.2.2.2.2.1)), (301, ownD none, OwnF 0 76 2 none 0 0 []), (11, Dx11, fun w => SlcIs 12 aj ((jsOf l 0 (nJ l 0)).1.map jc) w ∧ SlcIs 5 am ((msOf l 0 (nM l 0)).map mc) w)]⟩) (fun x => [(6, .int .i64 ((obN l - x.1 : Nat) : Int))]) (fun x => [(9, b9, srcC lv l x.2.2.1, 98), (4, b4, [.slice aj (nJ l 0) cj, .slice am (nM l 0) cm, .slice x.2.2.2.1.1 x.2.1 x.2.2.2.1.2, .slice none 0 0], 30)]) (0, m, q + 1, (a, cap), ss, ds, D) rfl rfl ?_ ?_ ?_ ?_ rfl ?_
    ·
      exact ⟨Nat.zero_le _, by show ((shA l (nJ l 0)).1, (shA l (nJ l 0)).2 + 1) = _; rw [hsh], hm, hlen⟩
    ·
      exact rfl
    ·
      repeat' first | exact trivial | exact True.intro | refine ⟨rfl, ?_⟩
    ·
      repeat' first | exact trivial | exact True.intro | refine ⟨rfl, ?_⟩
    rintro ⟨k2, m2, q2, ⟨a2, cap2⟩, ss2, ds2, D2⟩ ⟨hk2, hsh2, hm2, hlen2⟩
    dsimp only at hk2 hsh2 hm2 hlen2 ⊢
    have hsl2 := shB_len l k2
    rw [hsh2] at hsl2
    dsimp only at hsl2
    refine doC_seq ?_
    refine doC_seq ?_
    refine doC_region ?_
    refine doL_v (opV_move rfl) rfl rfl rfl ?_
    refine doL_v (opV_gtr rfl rfl) rfl rfl rfl ?_
    refine doL_nil ?_
    refine post_then ?_
    refine doC_cond rfl (fun hc46 => ?_) (fun hc46 => ?_)
    ·
      have h6 : k2 < obN l := by have := of_decide_eq_true hc46; omega
      refine doC_skip ?_
      refine post_then ?_
      refine doC_seq ?_
      refine doC_block ?_
      refine doC_seq ?_
      refine doC_region ?_
      refine doL_v (opV_move rfl) rfl rfl rfl ?_
      refine doL_srcB (F := vI) 9 hl rfl en26 rfl (fun w' h => srcSigned _ (by first | omega | assumption | (unfold In64; omega) | decide) w' h) rfl rfl rfl ?_; intro r50 hr50
      have br50 := srcS_b hr50 (by first | decide | omega)
      refine doL_v (opV_mul rfl rfl (by first | exact i64_in ⟨by omega, by omega⟩ | rfl)) rfl rfl rfl ?_
      refine doL_v (opV_move rfl) rfl rfl rfl ?_
      refine doL_srcB (F := vI) 9 hl rfl en26 rfl (fun w' h => srcSigned _ (by first | omega | assumption | (unfold In64; omega) | decide) w' h) rfl rfl rfl ?_; intro r53 hr53
      have br53 := srcS_b hr53 (by first | decide | omega)
      refine doL_v (opV_mul rfl rfl (by first | exact i64_in ⟨by omega, by omega⟩ | rfl)) rfl rfl rfl ?_
      refine doL_v (opV_move rfl) rfl rfl rfl ?_
      refine doL_srcB (F := vI) 9 hl rfl en26 rfl (fun w' h => srcSigned _ (by first | omega | assumption | (unfold In64; omega) | decide) w' h) rfl rfl rfl ?_; intro r56 hr56
      have br56 := srcS_b hr56 (by first | decide | omega)
      refine doL_v (opV_mul rfl rfl (by first | exact i64_in ⟨by omega, by omega⟩ | rfl)) rfl rfl rfl ?_
      refine doL_v (opV_build la50 rfl rfl) rfl rfl rfl ?_
      refine doL_alloc 7 ze50 rfl rfl rfl ?_; intro b7
      refine doL_store 7 ty50 rfl rfl rfl rfl rfl rfl rfl rfl ?_
      refine doL_nil ?_
      refine post_then ?_
      refine doC_srcB 9 12 [3, 9] rfl mo (by kernel_rfl) ?_
      simp only [List.take_succ_cons, List.take_zero, List.drop_succ_cons, List.drop_zero]
      refine doM_v (fun _ => opV_fieldAddr fa30_1 rfl) rfl rfl rfl rfl ?_
      refine doM_v (fun _ => opV_load1 4 ty27 rfl rfl rfl) rfl rfl rfl rfl ?_
      refine doM_v (fun _ => opV_move rfl) rfl rfl rfl rfl ?_
      refine doM_srcB (F := vI) 9 hl rfl en24 rfl (fun w' h => srcNext _ (by first | omega | assumption | (unfold In64; omega) | decide) w' h) rfl rfl rfl ?_; intro r62 hr62
      have br62 := srcR_b hr62 (by first | decide | omega)
      refine doM_v (fun _ => opV_add rfl rfl (by first | exact i64_in ⟨by omega, by omega⟩ | rfl)) rfl rfl rfl rfl ?_
      refine doM_v (fun _ => opV_mul rfl rfl (by first | exact i64_in ⟨by omega, by omega⟩ | rfl)) rfl rfl rfl rfl ?_
      refine doM_v (fun _ => opV_quo rfl rfl (by first | decide | omega) (rad8 (by omega))) rfl rfl rfl rfl ?_
      refine doM_v (fun _ => opV_move rfl) rfl rfl rfl rfl ?_
      refine doM_v (fun _ => opV_loadA 7 ty50 rfl rfl rfl) rfl rfl rfl rfl ?_
      refine doM_toldB 9 hl rfl en25 rfl (fun w' h => mkPoints _ _ _ (by first | omega | assumption | (unfold In64; omega) | decide) w' h) rfl rfl rfl rfl ?_
      refine doM_map (T := fun _ _ => True) (famB (id := 9) rfl) 68 rfl rfl (fun _ x _ => opV_build la41 rfl rfl) (fun _ => rfl) (by decide) rfl rfl rfl rfl ?_
      refine doM_rowmap (famB (id := 9) rfl) 69 rfl sl27 ze41 rfl rfl rfl rfl (fun _ => rfl) (fun _ => rfl) (fun _ => rfl) (by decide) rfl rfl rfl ?_
      refine doM_nil ?_
      refine tail_heap rfl ?_
      refine tail_tellrow 70 rfl rfl rfl ?_; intro x70 D70 bb70 _
      refine tail_append 300 app27 rfl rfl rfl rfl rfl rfl (by omega) (by omega) rfl rfl ?_; intro a71 c71 R71 hR71
      obtain rfl := Option.some.inj hR71
      refine doL_v (opV_fieldAddr fa30_1 rfl) rfl rfl rfl ?_
      refine doL_store 4 ty27 rfl rfl rfl rfl rfl rfl rfl rfl ?_
      refine doL_nil ?_
      refine post_block_normal ?_
      refine post_then ?_
      subst hr50; subst hr53; subst hr56; subst hr62
      refine doC_merge 200 (PtsF (ss2 ++ [obSp l q2]) (ds2 ++ [x70])) rfl rfl (fun h1 h2 => PtsF_dep (s := obSp l q2) (hlen2.trans hm2) h1 h2) (fun w h1 h2 => PtsF_snoc ss2 ds2 (obSp l q2) x70 w (hlen2.trans hm2) h2 h1) ?_
      refine doC_region ?_
      refine doL_v (opV_move rfl) rfl rfl rfl ?_
      refine doL_v (opV_sub rfl rfl (dec_rem (by omega) h6)) rfl rfl rfl ?_
      refine doL_v (opV_assign rfl) rfl rfl rfl ?_
      refine doL_nil ?_
      refine post_again (k2 + 1, m2 + 1, q2 + 1 + 1 + 1 + 1 + 1 + 3 * ptsN l (q2 + 1 + 1 + 1 + 1), (a71, c71), ss2 ++ [obSp l q2], ds2 ++ [x70], fun z => D70 z ∨ D2 z) (by refine ⟨?_, ?_, ?_, ?_⟩ <;> dsimp only; omega; show ((shB l k2).1 ++ [obSp l (shB l k2).2], _) = _; rw [hsh2]; simp [hm2]; simp [hlen2]) (by show obN l - (k2 + 1) < obN l - k2; omega) (by dsimp only; rw [spC_snoc _ _ (hlen2.trans hm2)]; simp only [spc, obSp, ptsOf_len]; rfl) ?_ ?_ rfl
      repeat' first | exact trivial | exact True.intro | refine ⟨rfl, ?_⟩
    ·
      obtain rfl : k2 = obN l := by have := of_decide_eq_false hc46; omega
      refine doC_exit ?_
      refine post_then_exit ?_
      refine post_then_exit ?_
      refine post_block_exit ?_
      refine post_then ?_
      refine doC_seq ?_
      refine doC_seq ?_
      refine doC_region ?_
      refine doL_v (opV_move rfl) rfl rfl rfl ?_
      refine doL_srcB (F := vI) 9 hl rfl en24 rfl (fun w' h => srcNext _ (by first | omega | assumption | (unfold In64; omega) | decide) w' h) rfl rfl rfl ?_; intro r74 hr74
      have br74 := srcR_b hr74 (by first | decide | omega)
      refine doL_v (opV_eql rfl rfl) rfl rfl rfl ?_
      refine doL_nil ?_
      refine post_then ?_
      refine doC_cond rfl (fun hc75 => ?_) (fun hc75 => ?_)
      ·
        have h7 : srcR l (scQ l) 5 = 1 := by have := of_decide_eq_true hc75; unfold scQ; rw [hsh2]; rw [hr74] at this; exact this
        refine doC_srcB 9 10 [7] rfl mo (by kernel_rfl) ?_
        simp only [List.take_succ_cons, List.take_zero, List.drop_succ_cons, List.drop_zero]
        refine doM_v (fun _ => opV_fieldAddr fa30_2 rfl) rfl rfl rfl rfl ?_
        refine doM_v (fun _ => opV_load1 4 ty28 rfl rfl rfl) rfl rfl rfl rfl ?_
        refine doM_v (fun _ => opV_move rfl) rfl rfl rfl rfl ?_
        refine doM_v (fun _ => opV_fieldAddr fa30_0 rfl) rfl rfl rfl rfl ?_
        refine doM_v (fun _ => opV_fieldAddr fa26_0 rfl) rfl rfl rfl rfl ?_
        refine doM_v (fun _ => opV_load1 4 ty23 rfl rfl rfl) rfl rfl rfl rfl ?_
        refine doM_v (fun _ => opV_len_slice sl23 rfl) rfl rfl rfl rfl ?_
        refine doM_srcB (F := vI) 9 hl rfl en24 rfl (fun w' h => srcNext _ (by first | omega | assumption | (unfold In64; omega) | decide) w' h) rfl rfl rfl ?_; intro r83 hr83
        have br83 := srcR_b hr83 (by first | decide | omega)
        refine doM_v (fun _ => opV_build la76 rfl rfl) rfl rfl rfl rfl ?_
        refine doM_bslice (famB (id := 9) rfl) sl28 ze76 rfl rfl rfl rfl rfl rfl rfl rfl rfl rfl ?_
        refine doM_nil ?_
        refine tail_heap rfl ?_
        refine tail_row ?_; intro bb85
        refine tail_append 301 app28 rfl rfl rfl rfl rfl rfl (by omega) (by omega) rfl rfl ?_; intro a86 c86 R86 hR86
        obtain rfl := Option.some.inj hR86
        refine doL_v (opV_fieldAddr fa30_2 rfl) rfl rfl rfl ?_
        refine doL_store 4 ty28 rfl rfl rfl rfl rfl rfl rfl rfl ?_
        refine doL_nil ?_
        refine post_then ?_
        refine doC_seq ?_
        refine doC_region ?_
        refine doL_v (opV_loadA 4 ty30 rfl rfl rfl) rfl rfl rfl ?_
        refine doL_store 2 ty30 rfl rfl rfl rfl rfl rfl rfl rfl ?_
        refine doL_nil ?_
        refine post_then ?_
        refine doC_ret ?_
        refine post_ret (rs := [.cell 2 30]) rfl (resC (resIs_cell 2 rfl rfl ty30 rfl) (resN)) rfl ?_
        intro w2 kn
        obtain ⟨p1, p2, p3⟩ := kn.facts _ List.mem_cons_self
        obtain ⟨_, q2', q3'⟩ := kn.facts _ (List.mem_cons_of_mem _ List.mem_cons_self)
        obtain ⟨_, r2, r3⟩ := kn.facts _ (List.mem_cons_of_mem _ (List.mem_cons_of_mem _ List.mem_cons_self))
        obtain ⟨u1, u2, u3⟩ := kn.facts _ (List.mem_cons_of_mem _ (List.mem_cons_of_mem _ (List.mem_cons_of_mem _ List.mem_cons_self)))
        exact scene_end hsh2 hm2 hlen2 (by obtain ⟨s1, s2⟩ := sk_t h7; refine ⟨s1, s2.trans ?_⟩; unfold scQ; rw [hsh2, hr83]; rfl) kn.grow ⟨_, u1, fun z hz => ⟨(u2 z hz).1, (u2 z hz).2.1⟩, u3⟩ ⟨_, slc_dep _ _ _, fun z hz => ⟨(q2' z hz).1, (q2' z hz).2.1⟩, sp_slc hm2 hlen2 q3'⟩ ⟨_, p1, fun z hz => ⟨(p2 z hz).1, (p2 z hz).2.1⟩, p3⟩ ⟨_, slc_dep _ _ _, fun z hz => ⟨(r2 z hz).1, (r2 z hz).2.1⟩, own2_slc r3⟩
      ·
        have h7 : ¬ srcR l (scQ l) 5 = 1 := by have := of_decide_eq_false hc75; unfold scQ; rw [hsh2]; rw [hr74] at this; exact this
        refine doC_skip ?_
        refine post_then ?_
        refine doC_seq ?_
        refine doC_region ?_
        refine doL_v (opV_loadA 4 ty30 rfl rfl rfl) rfl rfl rfl ?_
        refine doL_store 2 ty30 rfl rfl rfl rfl rfl rfl rfl rfl ?_
        refine doL_nil ?_
        refine post_then ?_
        refine doC_ret ?_
        refine post_ret (rs := [.cell 2 30]) rfl (resC (resIs_cell 2 rfl rfl ty30 rfl) (resN)) rfl ?_
        intro w2 kn
        obtain ⟨p1, p2, p3⟩ := kn.facts _ List.mem_cons_self
        obtain ⟨_, q2', q3'⟩ := kn.facts _ (List.mem_cons_of_mem _ List.mem_cons_self)
        obtain ⟨_, r2, r3⟩ := kn.facts _ (List.mem_cons_of_mem _ (List.mem_cons_of_mem _ List.mem_cons_self))
        obtain ⟨u1, u2, u3⟩ := kn.facts _ (List.mem_cons_of_mem _ (List.mem_cons_of_mem _ (List.mem_cons_of_mem _ List.mem_cons_self)))
        exact scene_end hsh2 hm2 hlen2 (sk_f h7) kn.grow ⟨_, u1, fun z hz => ⟨(u2 z hz).1, (u2 z hz).2.1⟩, u3⟩ ⟨_, slc_dep _ _ _, fun z hz => ⟨(q2' z hz).1, (q2' z hz).2.1⟩, sp_slc hm2 hlen2 q3'⟩ ⟨_, p1, fun z hz => ⟨(p2 z hz).1, (p2 z hz).2.1⟩, p3⟩ ⟨_, slc_dep _ _ _, fun z hz => ⟨(r2 z hz).1, (r2 z hz).2.1⟩, slc_nil _⟩
end Go.Proofs.YtonampcmhhhffaaGreat
namespace Go.Proofs.YtonampcmhhhffaaGreat
open Go.Sx
theorem sl34 : slcB Tryz.prog 34 44 2 = true := by kernel_rfl
theorem app34 : appB Tryz.prog 34 44 2 16 = true := by kernel_rfl
end Go.Proofs.YtonampcmhhhffaaGreat
namespace Go.Proofs.YtonampcmhhhffaaGreat
open Go.Sx
theorem en112 : Enters Tryz.prog 112 := enters_of Tryz.func112 (by kernel_rfl) (by kernel_rfl)
theorem en30 : Enters Tryz.prog 30 := enters_of Tryz.func30 (by kernel_rfl) (by kernel_rfl)
theorem ze114 : zeroIs Tryz.prog 114 (.agg #[.nilFunc]) := by unfold zeroIs; kernel_rfl
theorem la114 : layoutOf Tryz.prog 114 = some ([.nilFunc], [(0, 1)]) := by kernel_rfl
theorem ty114 : tyB Tryz.prog 114 true 1 = true := by kernel_rfl
theorem en64 : Enters Tryz.prog 64 := enters_of Tryz.func64 (by kernel_rfl) (by kernel_rfl)
theorem fl114_0 : fldB Tryz.prog 114 0 0 = true := by kernel_rfl
theorem en54 : Enters Tryz.prog 54 := enters_of Tryz.func54 (by kernel_rfl) (by kernel_rfl)
theorem kTurn (k : Int) (a0 a1 : Int) (w : World) : Calls Tryz.prog 85 [.int .i64 k, .agg #[.int .i64 a0, .int .i64 a1]].toArray w (Rets (po (Po.turn k (⟨a0, a1⟩ : Iv))) (w)) := by
  refine calls_of_doC (n := 8) Tryz.func85 rfl rfl rfl ?_
  refine doC_seq ?_
  refine doC_region ?_
  refine doL_box 3 rfl rfl rfl rfl ?_; intro b3
  refine doL_alloc 4 ze66 rfl rfl rfl ?_; intro b4
  refine doL_nil ?_
  refine post_then ?_
  refine doC_seq ?_
  refine doC_region ?_
  refine doL_v (opV_move rfl) rfl rfl rfl ?_
  refine doL_v (opV_loadA 3 ty44 rfl rfl rfl) rfl rfl rfl ?_
  refine doL_vg (F := po) (opV_call en112 rfl (fun w _ => pTurn _ _ _  w)) rfl rfl rfl ?_; intro r7 hr7
  refine doL_store 4 ty66 rfl rfl rfl rfl rfl rfl rfl rfl ?_
  refine doL_nil ?_
  refine post_then ?_
  refine doC_ret ?_
  refine post_rets (rs := [.cell 4 66]) rfl (resC (resIs_cell 4 rfl rfl ty66 rfl) (resN)) (congrArg (po) (?_ : ⟨⟨⟨⟨_, _⟩, ⟨_, _⟩, ⟨_, _⟩⟩, ⟨⟨_, _⟩, ⟨_, _⟩, ⟨_, _⟩⟩, ⟨⟨_, _⟩, ⟨_, _⟩, ⟨_, _⟩⟩⟩, ⟨⟨_, _⟩, ⟨_, _⟩, ⟨_, _⟩⟩⟩ = Po.turn k (⟨a0, a1⟩ : Iv)))
  subst_vars; rfl
theorem kSlide (k : Int) (a0 a1 : Int) (hk : 0 ≤ k ∧ k ≤ 2) (w : World) : Calls Tryz.prog 86 [.int .i64 k, .agg #[.int .i64 a0, .int .i64 a1]].toArray w (Rets (po (Po.shift (V3.put k (⟨a0, a1⟩ : Iv)))) (w)) := by
  refine calls_of_doC (n := 11) Tryz.func86 rfl rfl rfl ?_
  refine doC_seq ?_
  refine doC_region ?_
  refine doL_box 3 rfl rfl rfl rfl ?_; intro b3
  refine doL_alloc 4 ze66 rfl rfl rfl ?_; intro b4
  refine doL_nil ?_
  refine post_then ?_
  refine doC_seq ?_
  refine doC_region ?_
  refine doL_alloc 5 ze46 rfl rfl rfl ?_; intro b5
  refine doL_nil ?_
  refine post_then ?_
  refine doC_seq ?_
  rcases (show k = 0 ∨ k = 1 ∨ k = 2 by omega) with rfl | rfl | rfl
  ·
    refine doC_region ?_
    refine doL_v (opV_move rfl) rfl rfl rfl ?_
    refine doL_v (opV_loadA 3 ty44 rfl rfl rfl) rfl rfl rfl ?_
    refine doL_v (opV_indexAddr ar46 rfl rfl (by first | decide | omega) (by first | decide | omega)) rfl rfl rfl ?_
    refine doL_store 5 ty44 rfl rfl rfl rfl rfl rfl rfl rfl ?_
    refine doL_nil ?_
    refine post_then ?_
    refine doC_seq ?_
    refine doC_region ?_
    refine doL_v (opV_loadA 5 ty46 rfl rfl rfl) rfl rfl rfl ?_
    refine doL_vg (F := po) (opV_call en55 rfl (fun w _ => pShift _ _ _ _ _ _  w)) rfl rfl rfl ?_; intro r10 hr10
    refine doL_store 4 ty66 rfl rfl rfl rfl rfl rfl rfl rfl ?_
    refine doL_nil ?_
    refine post_then ?_
    refine doC_ret ?_
    refine post_rets (rs := [.cell 4 66]) rfl (resC (resIs_cell 4 rfl rfl ty66 rfl) (resN)) (congrArg (po) (?_ : ⟨⟨⟨⟨_, _⟩, ⟨_, _⟩, ⟨_, _⟩⟩, ⟨⟨_, _⟩, ⟨_, _⟩, ⟨_, _⟩⟩, ⟨⟨_, _⟩, ⟨_, _⟩, ⟨_, _⟩⟩⟩, ⟨⟨_, _⟩, ⟨_, _⟩, ⟨_, _⟩⟩⟩ = Po.shift (V3.put 0 (⟨a0, a1⟩ : Iv))))
    subst_vars; rfl
  ·
    refine doC_region ?_
    refine doL_v (opV_move rfl) rfl rfl rfl ?_
    refine doL_v (opV_loadA 3 ty44 rfl rfl rfl) rfl rfl rfl ?_
    refine doL_v (opV_indexAddr ar46 rfl rfl (by first | decide | omega) (by first | decide | omega)) rfl rfl rfl ?_
    refine doL_store 5 ty44 rfl rfl rfl rfl rfl rfl rfl rfl ?_
    refine doL_nil ?_
    refine post_then ?_
    refine doC_seq ?_
    refine doC_region ?_
    refine doL_v (opV_loadA 5 ty46 rfl rfl rfl) rfl rfl rfl ?_
    refine doL_vg (F := po) (opV_call en55 rfl (fun w _ => pShift _ _ _ _ _ _  w)) rfl rfl rfl ?_; intro r10 hr10
    refine doL_store 4 ty66 rfl rfl rfl rfl rfl rfl rfl rfl ?_
    refine doL_nil ?_
    refine post_then ?_
    refine doC_ret ?_
    refine post_rets (rs := [.cell 4 66]) rfl (resC (resIs_cell 4 rfl rfl ty66 rfl) (resN)) (congrArg (po) (?_ : ⟨⟨⟨⟨_, _⟩, ⟨_, _⟩, ⟨_, _⟩⟩, ⟨⟨_, _⟩, ⟨_, _⟩, ⟨_, _⟩⟩, ⟨⟨_, _⟩, ⟨_, _⟩, ⟨_, _⟩⟩⟩, ⟨⟨_, _⟩, ⟨_, _⟩, ⟨_, _⟩⟩⟩ = Po.shift (V3.put 1 (⟨a0, a1⟩ : Iv))))
    subst_vars; rfl
  ·
    refine doC_region ?_
    refine doL_v (opV_move rfl) rfl rfl rfl ?_
    refine doL_v (opV_loadA 3 ty44 rfl rfl rfl) rfl rfl rfl ?_
    refine doL_v (opV_indexAddr ar46 rfl rfl (by first | decide | omega) (by first | decide | omega)) rfl rfl rfl ?_
    refine doL_store 5 ty44 rfl rfl rfl rfl rfl rfl rfl rfl ?_
    refine doL_nil ?_
    refine post_then ?_
    refine doC_seq ?_
    refine doC_region ?_
    refine doL_v (opV_loadA 5 ty46 rfl rfl rfl) rfl rfl rfl ?_
    refine doL_vg (F := po) (opV_call en55 rfl (fun w _ => pShift _ _ _ _ _ _  w)) rfl rfl rfl ?_; intro r10 hr10
    refine doL_store 4 ty66 rfl rfl rfl rfl rfl rfl rfl rfl ?_
    refine doL_nil ?_
    refine post_then ?_
    refine doC_ret ?_
    refine post_rets (rs := [.cell 4 66]) rfl (resC (resIs_cell 4 rfl rfl ty66 rfl) (resN)) (congrArg (po) (?_ : ⟨⟨⟨⟨_, _⟩, ⟨_, _⟩, ⟨_, _⟩⟩, ⟨⟨_, _⟩, ⟨_, _⟩, ⟨_, _⟩⟩, ⟨⟨_, _⟩, ⟨_, _⟩, ⟨_, _⟩⟩⟩, ⟨⟨_, _⟩, ⟨_, _⟩, ⟨_, _⟩⟩⟩ = Po.shift (V3.put 2 (⟨a0, a1⟩ : Iv))))
    subst_vars; rfl
theorem kRest (k : Int) (a0 a1 : Int) (w : World) : Calls Tryz.prog 87 [.int .i64 k, .agg #[.int .i64 a0, .int .i64 a1]].toArray w (Rets (po (Po.rest)) (w)) := by
  refine calls_of_doC (n := 6) Tryz.func87 rfl rfl rfl ?_
  refine doC_seq ?_
  refine doC_region ?_
  refine doL_box 3 rfl rfl rfl rfl ?_; intro b3
  refine doL_alloc 4 ze66 rfl rfl rfl ?_; intro b4
  refine doL_nil ?_
  refine post_then ?_
  refine doC_seq ?_
  refine doC_region ?_
  refine doL_vg (F := po) (opV_call en30 rfl (fun w _ => pIdentity   w)) rfl rfl rfl ?_; intro r5 hr5
  refine doL_store 4 ty66 rfl rfl rfl rfl rfl rfl rfl rfl ?_
  refine doL_nil ?_
  refine post_then ?_
  refine doC_ret ?_
  refine post_rets (rs := [.cell 4 66]) rfl (resC (resIs_cell 4 rfl rfl ty66 rfl) (resN)) (congrArg (po) (?_ : ⟨⟨⟨⟨_, _⟩, ⟨_, _⟩, ⟨_, _⟩⟩, ⟨⟨_, _⟩, ⟨_, _⟩, ⟨_, _⟩⟩, ⟨⟨_, _⟩, ⟨_, _⟩, ⟨_, _⟩⟩⟩, ⟨⟨_, _⟩, ⟨_, _⟩, ⟨_, _⟩⟩⟩ = Po.rest))
  subst_vars; rfl
theorem kMotion (k : Int) (w : World) : Calls Tryz.prog 64 [.int .i64 k].toArray w (Rets (motV 85 86 87 k) w) := by
  refine calls_of_doC (n := 22) Tryz.func64 rfl rfl rfl ?_
  refine doC_seq ?_
  refine doC_region ?_
  refine doL_alloc 2 ze114 rfl rfl rfl ?_; intro b2
  refine doL_nil ?_
  refine post_then ?_
  refine doC_seq ?_
  refine doC_seq ?_
  refine doC_region ?_
  refine doL_v (opV_move rfl) rfl rfl rfl ?_
  refine doL_nil ?_
  refine post_then ?_
  refine doC_block ?_
  refine doC_seq ?_
  refine doC_seq ?_
  refine doC_region ?_
  refine doL_v (opV_eql rfl rfl) rfl rfl rfl ?_
  refine doL_v (opV_assign rfl) rfl rfl rfl ?_
  refine doL_nil ?_
  refine post_then ?_
  refine doC_cond rfl (fun hc4 => ?_) (fun hc4 => ?_)
  ·
    have e := of_decide_eq_true hc4
    refine doC_skip ?_
    refine post_then ?_
    refine doC_cond_t rfl (hc4) ?_
    refine doC_seq ?_
    refine doC_region ?_
    refine doL_v (opV_move rfl) rfl rfl rfl ?_
    refine doL_v (opV_sub rfl rfl (by first | exact i64_in ⟨by omega, by omega⟩ | rfl)) rfl rfl rfl ?_
    refine doL_v (opV_makeFunc rfl rfl) rfl rfl rfl ?_
    refine doL_v (opV_build la114 rfl rfl) rfl rfl rfl ?_
    refine doL_store 2 ty114 rfl rfl rfl rfl rfl rfl rfl rfl ?_
    refine doL_nil ?_
    refine post_then ?_
    refine doC_ret ?_
    refine post_block_ret ?_
    refine post_then_ret ?_
    refine post_ret (rs := [.cell 2 114]) rfl (resC (resIs_cell 2 rfl rfl ty114 rfl) (resN)) rfl ?_
    intro w2 kn
    exact ⟨congrArg Ending.returned (by first | exact (mot_t (by omega)).symm | exact (mot_s (by omega)).symm | exact (mot_r (by omega) (by omega)).symm), kn.grow⟩
  ·
    have e := of_decide_eq_false hc4
    refine doC_seq ?_
    refine doC_region ?_
    refine doL_v (opV_eql rfl rfl) rfl rfl rfl ?_
    refine doL_v (opV_assign rfl) rfl rfl rfl ?_
    refine doL_nil ?_
    refine post_then ?_
    refine doC_cond rfl (fun hc4_2 => ?_) (fun hc4_2 => ?_)
    ·
      have e := of_decide_eq_true hc4_2
      refine doC_skip ?_
      refine post_then ?_
      refine doC_cond_t rfl (hc4_2) ?_
      refine doC_seq ?_
      refine doC_region ?_
      refine doL_v (opV_move rfl) rfl rfl rfl ?_
      refine doL_v (opV_sub rfl rfl (by first | exact i64_in ⟨by omega, by omega⟩ | rfl)) rfl rfl rfl ?_
      refine doL_v (opV_makeFunc rfl rfl) rfl rfl rfl ?_
      refine doL_v (opV_build la114 rfl rfl) rfl rfl rfl ?_
      refine doL_store 2 ty114 rfl rfl rfl rfl rfl rfl rfl rfl ?_
      refine doL_nil ?_
      refine post_then ?_
      refine doC_ret ?_
      refine post_block_ret ?_
      refine post_then_ret ?_
      refine post_ret (rs := [.cell 2 114]) rfl (resC (resIs_cell 2 rfl rfl ty114 rfl) (resN)) rfl ?_
      intro w2 kn
      exact ⟨congrArg Ending.returned (by first | exact (mot_t (by omega)).symm | exact (mot_s (by omega)).symm | exact (mot_r (by omega) (by omega)).symm), kn.grow⟩
    ·
      have e := of_decide_eq_false hc4_2
      refine doC_region ?_
      refine doL_v (opV_eql rfl rfl) rfl rfl rfl ?_
      refine doL_v (opV_assign rfl) rfl rfl rfl ?_
      refine doL_nil ?_
      refine post_then ?_
      refine doC_cond rfl (fun hc4_3 => ?_) (fun hc4_3 => ?_)
      ·
        have e := of_decide_eq_true hc4_3
        refine doC_seq ?_
        refine doC_region ?_
        refine doL_v (opV_move rfl) rfl rfl rfl ?_
        refine doL_v (opV_sub rfl rfl (by first | exact i64_in ⟨by omega, by omega⟩ | rfl)) rfl rfl rfl ?_
        refine doL_v (opV_makeFunc rfl rfl) rfl rfl rfl ?_
        refine doL_v (opV_build la114 rfl rfl) rfl rfl rfl ?_
        refine doL_store 2 ty114 rfl rfl rfl rfl rfl rfl rfl rfl ?_
        refine doL_nil ?_
        refine post_then ?_
        refine doC_ret ?_
        refine post_block_ret ?_
        refine post_then_ret ?_
        refine post_ret (rs := [.cell 2 114]) rfl (resC (resIs_cell 2 rfl rfl ty114 rfl) (resN)) rfl ?_
        intro w2 kn
        exact ⟨congrArg Ending.returned (by first | exact (mot_t (by omega)).symm | exact (mot_s (by omega)).symm | exact (mot_r (by omega) (by omega)).symm), kn.grow⟩
      ·
        have e := of_decide_eq_false hc4_3
        refine doC_seq ?_
        refine doC_seq ?_
        refine doC_region ?_
        refine doL_v (opV_eql rfl rfl) rfl rfl rfl ?_
        refine doL_v (opV_assign rfl) rfl rfl rfl ?_
        refine doL_nil ?_
        refine post_then ?_
        refine doC_cond rfl (fun hc12 => ?_) (fun hc12 => ?_)
        ·
          have e := of_decide_eq_true hc12
          refine doC_skip ?_
          refine post_then ?_
          refine doC_cond_t rfl (hc12) ?_
          refine doC_seq ?_
          refine doC_region ?_
          refine doL_v (opV_move rfl) rfl rfl rfl ?_
          refine doL_v (opV_sub rfl rfl (by first | exact i64_in ⟨by omega, by omega⟩ | rfl)) rfl rfl rfl ?_
          refine doL_v (opV_makeFunc rfl rfl) rfl rfl rfl ?_
          refine doL_v (opV_build la114 rfl rfl) rfl rfl rfl ?_
          refine doL_store 2 ty114 rfl rfl rfl rfl rfl rfl rfl rfl ?_
          refine doL_nil ?_
          refine post_then ?_
          refine doC_ret ?_
          refine post_block_ret ?_
          refine post_then_ret ?_
          refine post_ret (rs := [.cell 2 114]) rfl (resC (resIs_cell 2 rfl rfl ty114 rfl) (resN)) rfl ?_
          intro w2 kn
          exact ⟨congrArg Ending.returned (by first | exact (mot_t (by omega)).symm | exact (mot_s (by omega)).symm | exact (mot_r (by omega) (by omega)).symm), kn.grow⟩
        ·
          have e := of_decide_eq_false hc12
          refine doC_seq ?_
          refine doC_region ?_
          refine doL_v (opV_eql rfl rfl) rfl rfl rfl ?_
          refine doL_v (opV_assign rfl) rfl rfl rfl ?_
          refine doL_nil ?_
          refine post_then ?_
          refine doC_cond rfl (fun hc12_2 => ?_) (fun hc12_2 => ?_)
          ·
            have e := of_decide_eq_true hc12_2
            refine doC_skip ?_
            refine post_then ?_
            refine doC_cond_t rfl (hc12_2) ?_
            refine doC_seq ?_
            refine doC_region ?_
            refine doL_v (opV_move rfl) rfl rfl rfl ?_
            refine doL_v (opV_sub rfl rfl (by first | exact i64_in ⟨by omega, by omega⟩ | rfl)) rfl rfl rfl ?_
            refine doL_v (opV_makeFunc rfl rfl) rfl rfl rfl ?_
            refine doL_v (opV_build la114 rfl rfl) rfl rfl rfl ?_
            refine doL_store 2 ty114 rfl rfl rfl rfl rfl rfl rfl rfl ?_
            refine doL_nil ?_
            refine post_then ?_
            refine doC_ret ?_
            refine post_block_ret ?_
            refine post_then_ret ?_
            refine post_ret (rs := [.cell 2 114]) rfl (resC (resIs_cell 2 rfl rfl ty114 rfl) (resN)) rfl ?_
            intro w2 kn
            exact ⟨congrArg Ending.returned (by first | exact (mot_t (by omega)).symm | exact (mot_s (by omega)).symm | exact (mot_r (by omega) (by omega)).symm), kn.grow⟩
          ·
            have e := of_decide_eq_false hc12_2
            refine doC_region ?_
            refine doL_v (opV_eql rfl rfl) rfl rfl rfl ?_
            refine doL_v (opV_assign rfl) rfl rfl rfl ?_
            refine doL_nil ?_
            refine post_then ?_
            refine doC_cond rfl (fun hc12_3 => ?_) (fun hc12_3 => ?_)
            ·
              have e := of_decide_eq_true hc12_3
              refine doC_seq ?_
              refine doC_region ?_
              refine doL_v (opV_move rfl) rfl rfl rfl ?_
              refine doL_v (opV_sub rfl rfl (by first | exact i64_in ⟨by omega, by omega⟩ | rfl)) rfl rfl rfl ?_
              refine doL_v (opV_makeFunc rfl rfl) rfl rfl rfl ?_
              refine doL_v (opV_build la114 rfl rfl) rfl rfl rfl ?_
              refine doL_store 2 ty114 rfl rfl rfl rfl rfl rfl rfl rfl ?_
              refine doL_nil ?_
              refine post_then ?_
              refine doC_ret ?_
              refine post_block_ret ?_
              refine post_then_ret ?_
              refine post_ret (rs := [.cell 2 114]) rfl (resC (resIs_cell 2 rfl rfl ty114 rfl) (resN)) rfl ?_
              intro w2 kn
              exact ⟨congrArg Ending.returned (by first | exact (mot_t (by omega)).symm | exact (mot_s (by omega)).symm | exact (mot_r (by omega) (by omega)).symm), kn.grow⟩
            ·
              have e := of_decide_eq_false hc12_3
              refine doC_skip ?_
              refine post_block_normal ?_
              refine post_then ?_
              refine doC_seq ?_
              refine doC_region ?_
              refine doL_v (opV_makeFunc rfl rfl) rfl rfl rfl ?_
              refine doL_v (opV_build la114 rfl rfl) rfl rfl rfl ?_
              refine doL_store 2 ty114 rfl rfl rfl rfl rfl rfl rfl rfl ?_
              refine doL_nil ?_
              refine post_then ?_
              refine doC_ret ?_
              refine post_ret (rs := [.cell 2 114]) rfl (resC (resIs_cell 2 rfl rfl ty114 rfl) (resN)) rfl ?_
              intro w2 kn
              exact ⟨congrArg Ending.returned (by first | exact (mot_t (by omega)).symm | exact (mot_s (by omega)).symm | exact (mot_r (by omega) (by omega)).symm), kn.grow⟩
theorem en_t : Enters Tryz.prog 85 := enters_of Tryz.func85 (by kernel_rfl) (by kernel_rfl)
theorem en_s : Enters Tryz.prog 86 := enters_of Tryz.func86 (by kernel_rfl) (by kernel_rfl)
theorem en_r : Enters Tryz.prog 87 := enters_of Tryz.func87 (by kernel_rfl) (by kernel_rfl)
theorem en_mot (k : Int) : Enters Tryz.prog (if k = 1 ∨ k = 2 ∨ k = 3 then 85 else if k = 4 ∨ k = 5 ∨ k = 6 then 86 else 87) := by
  by_cases h : k = 1 ∨ k = 2 ∨ k = 3
  · rw [if_pos h]; exact en_t
  · by_cases h2 : k = 4 ∨ k = 5 ∨ k = 6
    · rw [if_neg h, if_pos h2]; exact en_s
    · rw [if_neg h, if_neg h2]; exact en_r
theorem kMove (k a0 a1 : Int) (w : World) : Calls Tryz.prog (if k = 1 ∨ k = 2 ∨ k = 3 then 85 else if k = 4 ∨ k = 5 ∨ k = 6 then 86 else 87) [.int .i64 (if k = 1 ∨ k = 2 ∨ k = 3 then k - 1 else if k = 4 ∨ k = 5 ∨ k = 6 then k - 4 else 0), .agg #[.int .i64 a0, .int .i64 a1]].toArray w (Rets (po (jMot k ⟨a0, a1⟩)) w) := by
  by_cases h : k = 1 ∨ k = 2 ∨ k = 3
  · rw [if_pos h, if_pos h, jMot_t h]; exact kTurn _ _ _ w
  · by_cases h2 : k = 4 ∨ k = 5 ∨ k = 6
    · rw [if_neg h, if_pos h2, if_neg h, if_pos h2, jMot_s h2]; exact kSlide _ _ _ (by omega) w
    · rw [if_neg h, if_neg h2, if_neg h, if_neg h2, jMot_r h h2]; exact kRest _ _ _ w
theorem kJoint (a0 a1 : Int) (nm : ByteArray) (kind par ox oy oz jlo jhi we spd acc tq : Int) (w : World) : Calls Tryz.prog 38 [.agg #[.string nm, .int .i64 kind, .int .i64 par, .int .i64 ox, .int .i64 oy, .int .i64 oz, .int .i64 jlo, .int .i64 jhi, .int .i64 we, .int .i64 spd, .int .i64 acc, .int .i64 tq], .agg #[.int .i64 a0, .int .i64 a1]].toArray w (Rets (po (jPose kind ⟨ox, oy, oz⟩ (⟨a0, a1⟩ : Iv))) (w)) := by
  refine calls_of_doC (n := 16) Tryz.func38 rfl rfl rfl ?_
  refine doC_seq ?_
  refine doC_region ?_
  refine doL_box 2 rfl rfl rfl rfl ?_; intro b2
  refine doL_box 3 rfl rfl rfl rfl ?_; intro b3
  refine doL_alloc 4 ze66 rfl rfl rfl ?_; intro b4
  refine doL_nil ?_
  refine post_then ?_
  refine doC_seq ?_
  refine doC_drawn 11 mo (by kernel_rfl) ?_
  simp only [List.take_succ_cons, List.take_zero, List.drop_succ_cons, List.drop_zero]
  refine doG_v (opV_fieldAddr fa84_3 rfl) rfl rfl rfl ?_
  refine doG_v (opV_loadA 2 ty50 rfl rfl rfl) rfl rfl rfl ?_
  refine doG_vg (F := v3) (opV_call en59 rfl (fun w _ => mPoint _ _ _  w)) rfl rfl rfl ?_; intro r7 hr7
  refine doG_vg (F := po) (opV_call en55 rfl (fun w _ => pShift _ _ _ _ _ _  w)) rfl rfl rfl ?_; intro r8 hr8
  refine doG_v (opV_fieldAddr fa84_1 rfl) rfl rfl rfl ?_
  refine doG_v (opV_load1 2 ty3 rfl rfl rfl) rfl rfl rfl ?_
  refine doG_vg (F := motV 85 86 87) (opV_call en64 rfl (fun w _ => kMotion _  w)) rfl rfl rfl ?_; intro r11 hr11
  refine doG_v (opV_field1 fl114_0 rfl rfl) rfl rfl rfl ?_
  refine doG_v (opV_loadA 3 ty44 rfl rfl rfl) rfl rfl rfl ?_
  refine doG_vg (F := po) (opV_callV (en_mot _) rfl rfl rfl (fun w _ => kMove _ _ _ w)) rfl rfl rfl ?_; intro r14 hr14
  refine doG_vg (F := po) (opV_call en54 rfl (fun w _ => pCompose _ _ _ _ _ _ _ _ _ _ _ _ _ _ _ _ _ _ _ _ _ _ _ _ _ _ _ _ _ _ _ _ _ _ _ _ _ _ _ _ _ _ _ _ _ _ _ _  w)) rfl rfl rfl ?_; intro r15 hr15
  refine doG_nil ?_
  refine tail_nil ?_
  refine doL_store 4 ty66 rfl rfl rfl rfl rfl rfl rfl rfl ?_
  refine doL_nil ?_
  refine post_then ?_
  refine doC_ret ?_
  refine post_rets (rs := [.cell 4 66]) rfl (resC (resIs_cell 4 rfl rfl ty66 rfl) (resN)) (congrArg (po) (?_ : ⟨⟨⟨⟨_, _⟩, ⟨_, _⟩, ⟨_, _⟩⟩, ⟨⟨_, _⟩, ⟨_, _⟩, ⟨_, _⟩⟩, ⟨⟨_, _⟩, ⟨_, _⟩, ⟨_, _⟩⟩⟩, ⟨⟨_, _⟩, ⟨_, _⟩, ⟨_, _⟩⟩⟩ = jPose kind ⟨ox, oy, oz⟩ (⟨a0, a1⟩ : Iv)))
  have e8 : r8 = Po.shift r7 := hr8
  have e15 : r15 = Po.mul r8 r14 := hr15
  show r15 = _
  rw [e15, e8, hr7, hr14, hr11]
  rfl
end Go.Proofs.YtonampcmhhhffaaGreat
namespace Go.Proofs.YtonampcmhhhffaaGreat
open Go.Sx
theorem en12 : Enters Tryz.prog 12 := enters_of Tryz.func12 (by kernel_rfl) (by kernel_rfl)
theorem en38 : Enters Tryz.prog 38 := enters_of Tryz.func38 (by kernel_rfl) (by kernel_rfl)
theorem en39 : Enters Tryz.prog 39 := enters_of Tryz.func39 (by kernel_rfl) (by kernel_rfl)
theorem ag46 : aggB Tryz.prog 46 = true := by kernel_rfl
theorem ce46 (a0 a1 a2 a3 a4 a5 : Int) : cellsB Tryz.prog 4 46 [.int .i64 a0, .int .i64 a1, .int .i64 a2, .int .i64 a3, .int .i64 a4, .int .i64 a5] = true := by kernel_rfl
theorem k4 {k : Int} (h : k = 4) : IntKind.i64.wrap (k - 4) = 0 := by rw [h]; rfl
theorem k5 {k : Int} (h : k = 5) : IntKind.i64.wrap (k - 4) = 1 := by rw [h]; rfl
theorem k6 {k : Int} (h : k = 6) : IntKind.i64.wrap (k - 4) = 2 := by rw [h]; rfl
theorem awake11_val : Po.app (jPose 3 ⟨9, 0, 0⟩ (Iv.of 16384)) (V3.of ⟨5, 0, 0⟩) = V3.of ⟨9, 5, 0⟩ := by kernel_rfl
theorem awake11  (w : World) : Calls Tryz.prog 15 [].toArray w (Rets (vB (true)) (w)) := by
  refine calls_of_doC (n := 13) Tryz.func15 rfl rfl rfl ?_
  refine doC_seq ?_
  refine doC_region ?_
  refine doL_v (opV_assign rfl) rfl rfl rfl ?_
  refine doL_nil ?_
  refine post_then ?_
  refine doC_seq ?_
  refine doC_region ?_
  refine doL_v (opV_build la50 rfl rfl) rfl rfl rfl ?_
  refine doL_v (opV_build la84 rfl rfl) rfl rfl rfl ?_
  refine doL_vg (F := iv) (opV_call en34 rfl (fun w _ => rOf _  w)) rfl rfl rfl ?_; intro r4 hr4
  refine doL_vg (F := po) (opV_call en38 rfl (fun w _ => kJoint _ _ _ _ _ _ _ _ _ _ _ _ _ _ w)) rfl rfl rfl ?_; intro r5 hr5
  refine doL_alloc 1 ze66 rfl rfl rfl ?_; intro b1
  refine doL_store 1 ty66 rfl rfl rfl rfl rfl rfl rfl rfl ?_
  refine doL_nil ?_
  refine post_then ?_
  refine doC_seq ?_
  refine doC_drawn 7 mo (by kernel_rfl) ?_
  simp only [List.take_succ_cons, List.take_zero, List.drop_succ_cons, List.drop_zero]
  refine doG_v (opV_loadA 1 ty66 rfl rfl rfl) rfl rfl rfl ?_
  refine doG_v (opV_build la50 rfl rfl) rfl rfl rfl ?_
  refine doG_vg (F := v3) (opV_call en12 rfl (fun w _ => rPoint _ _ _  w)) rfl rfl rfl ?_; intro r8 hr8
  refine doG_vg (F := v3) (opV_call en39 rfl (fun w _ => qApply _ _ _ _ _ _ _ _ _ _ _ _ _ _ _ _ _ _ _ _ _ _ _ _ _ _ _ _ _ _  w)) rfl rfl rfl ?_; intro r9 hr9
  refine doG_v (opV_build la50 rfl rfl) rfl rfl rfl ?_
  refine doG_vg (F := v3) (opV_call en12 rfl (fun w _ => rPoint _ _ _  w)) rfl rfl rfl ?_; intro r11 hr11
  refine doG_v (opV_eqA 4 rfl ag46 rfl rfl (ce46 _ _ _ _ _ _) (ce46 _ _ _ _ _ _)) rfl rfl rfl ?_
  refine doG_nil ?_
  refine tail_nil ?_
  refine doL_v (opV_assign rfl) rfl rfl rfl ?_
  refine doL_nil ?_
  refine post_then ?_
  refine doC_ret ?_
  refine post_rets (rs := [.tmp 0]) rfl (resC (resIs_tmp rfl) (resN)) (congrArg (vB) (?_ : _ = true))
  show eqCells _ _ = true
  have e9 : r9 = Po.app r5 r8 := hr9
  exact eq_v3 (by rw [e9, show r5 = jPose 3 ⟨9, 0, 0⟩ r4 from hr5, hr4, hr8, hr11]; exact awake11_val)
end Go.Proofs.YtonampcmhhhffaaGreat

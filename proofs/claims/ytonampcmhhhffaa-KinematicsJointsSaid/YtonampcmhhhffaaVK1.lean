/- What making points, robots, scenes and boxes computes. No condition. -/
import Derived.Test.YtonampcmhhhffaaProg
import Derived.Test.YtonampcmhhhffaaVRob
import Derived.Test.YtonampcmhhhffaaVA1
import Derived.Test.YtonampcmhhhffaaVA2
import Derived.Test.YtonampcmhhhffaaVSrc
namespace Go.Proofs.Ytonampcmhhhffaa
open Go.Sx
theorem ty38 : tyB Try.prog 38 true 3 = true := by kernel_rfl
theorem sl113 : slcB Try.prog 113 38 3 = true := by kernel_rfl
theorem ze38 : zeroIs Try.prog 38 (.agg #[.int .i64 0, .int .i64 0, .int .i64 0]) := by unfold zeroIs; kernel_rfl
theorem ar38 : arrB Try.prog 38 3 1 = true := by kernel_rfl
theorem en28 : Enters Try.prog 28 := enters_of Try.func28 (by kernel_rfl) (by kernel_rfl)
theorem la38 : layoutOf Try.prog 38 = some ([.int .i64 0, .int .i64 0, .int .i64 0], [(0, 1), (1, 1), (2, 1)]) := by kernel_rfl
theorem app113 : appB Try.prog 113 38 3 24 = true := by kernel_rfl

theorem dec_rem {n k : Nat} (hn : n ≤ 1000) (h : k < n) : IntKind.i64.wrap (((n - k : Nat) : Int) - 1) = ((n - (k + 1) : Nat) : Int) := by
  refine (i64_in ?_).trans ?_ <;> omega

theorem mkPoints {b : Nat} {sl : Value} {L : List Int} {i : Nat} (ca0 ca1 ca2 : Int) (hc : -1000000000 ≤ ca0 ∧ ca0 ≤ 1000000000 ∧ -1000000000 ≤ ca1 ∧ ca1 ≤ 1000000000 ∧ -1000000000 ≤ ca2 ∧ ca2 ≤ 1000000000) (w : World) (hs : Src w b sl L i) : Calls Try.prog 99 [.pointer (some ⟨b, 0, none⟩), .agg #[.int .i64 ca0, .int .i64 ca1, .int .i64 ca2]].toArray w (RetsF (X := Option Addr × Nat) (fun _ => True) (fun x => .slice x.1 (ptsN L i + 1) x.2) (fun x => SlcIs 3 x.1 ((ptsOf L i ⟨ca0, ca1, ca2⟩ (ptsN L i)).map z3c)) (srcW w b sl L (i + 1 + 3 * ptsN L i))) := by
  refine calls_src (n := 38) hs Try.func99 rfl rfl rfl ?_
  refine doC_seq ?_
  refine doC_region ?_
  refine doL_box 3 rfl rfl rfl rfl ?_; intro b3
  refine doL_v (opV_assign rfl) rfl rfl rfl ?_
  refine doL_nil ?_
  refine post_then ?_
  refine doC_seq ?_
  refine doC_region ?_
  refine doL_v (opV_loadA 3 ty38 rfl rfl rfl) rfl rfl rfl ?_
  refine doL_bslice 8 sl113 ze38 rfl rfl rfl rfl rfl rfl rfl rfl ?_; intro b8
  refine doL_v (opV_assign rfl) rfl rfl rfl ?_
  refine doL_nil ?_
  refine post_then ?_
  refine doC_seq ?_
  refine doC_seq ?_
  refine doC_toOwnA 8 1 3 rfl rfl rfl rfl ?_
  refine doC_region ?_
  refine doL_v (opV_move rfl) rfl rfl rfl ?_
  refine doL_srcA (F := vI) hs en30 rfl (fun w' h => srcNext _ (by first | omega | assumption | (unfold In64; omega) | decide) w' h) rfl rfl ?_; intro r10 hr10
  have br10 := srcR_b hr10 (by first | decide | omega)
  obtain rfl : r10 = ((ptsN L i : Nat) : Int) := by rw [hr10]; unfold ptsN; have := srcR_bnd L i (k := 4) (by decide); omega
  refine doL_v (opV_assign rfl) rfl rfl rfl ?_
  refine doL_nil ?_
  refine post_then ?_
  refine doC_block ?_
  refine doC_loopK [0, 3] [3] (α := Nat × Option Addr × Nat) (fun x => ptsN L i - x.1) (fun x => x.1 ≤ ptsN L i) (fun x => srcB ⟨w, [(8, ownD x.2.1, OwnF 0 38 3 x.2.1 x.2.2 (x.1 + 1) (ptsC L i ⟨ca0, ca1, ca2⟩ x.1))]⟩ b sl L (i + 1 + 3 * x.1)) (fun x => [(5, .slice x.2.1 (x.1 + 1) x.2.2), (6, .int .i64 ((ptsN L i - x.1 : Nat) : Int))]) (fun _ => []) (0, some ⟨b8, 0, none⟩, 1) rfl rfl ?_ ?_ ?_ ?_ rfl ?_
  ·
    exact Nat.zero_le _
  ·
    exact rfl
  ·
    repeat' first | exact trivial | exact True.intro | refine ⟨rfl, ?_⟩
  ·
    repeat' first | exact trivial | exact True.intro | refine ⟨rfl, ?_⟩
  rintro ⟨k, a, cap⟩ hk
  dsimp only at hk ⊢
  have hb3 := ptsN_b L i
  refine doC_seq ?_
  refine doC_seq ?_
  refine doC_region ?_
  refine doL_v (opV_move rfl) rfl rfl rfl ?_
  refine doL_v (opV_gtr rfl rfl) rfl rfl rfl ?_
  refine doL_nil ?_
  refine post_then ?_
  refine doC_cond rfl (fun hc12 => ?_) (fun hc12 => ?_)
  ·
    have h2 : k < ptsN L i := by have := of_decide_eq_true hc12; omega
    refine doC_skip ?_
    refine post_then ?_
    refine doC_seq ?_
    refine doC_block ?_
    refine doC_srcA 21 [4, 10, 16] hs mo (by kernel_rfl) ?_
    simp only [List.take_succ_cons, List.take_zero, List.drop_succ_cons, List.drop_zero]
    refine doM_v (fun _ => opV_move rfl) rfl rfl rfl rfl ?_
    refine doM_v (fun _ => opV_indexAddr ar38 rfl rfl (by first | decide | omega) (by first | decide | omega)) rfl rfl rfl rfl ?_
    refine doM_v (fun _ => opV_load1 3 ty2 rfl rfl rfl) rfl rfl rfl rfl ?_
    refine doM_v (fun _ => opV_move rfl) rfl rfl rfl rfl ?_
    refine doM_srcA (F := vI) hs en28 rfl (fun w' h => srcSigned _ (by first | omega | assumption | (unfold In64; omega) | decide) w' h) rfl rfl rfl ?_; intro r19 hr19
    have br19 := srcS_b hr19 (by first | decide | omega)
    refine doM_v (fun _ => opV_mul rfl rfl (by first | exact i64_in ⟨by omega, by omega⟩ | rfl)) rfl rfl rfl rfl ?_
    refine doM_v (fun _ => opV_add rfl rfl (by first | exact i64_in ⟨by omega, by omega⟩ | rfl)) rfl rfl rfl rfl ?_
    refine doM_v (fun _ => opV_indexAddr ar38 rfl rfl (by first | decide | omega) (by first | decide | omega)) rfl rfl rfl rfl ?_
    refine doM_v (fun _ => opV_load1 3 ty2 rfl rfl rfl) rfl rfl rfl rfl ?_
    refine doM_v (fun _ => opV_move rfl) rfl rfl rfl rfl ?_
    refine doM_srcA (F := vI) hs en28 rfl (fun w' h => srcSigned _ (by first | omega | assumption | (unfold In64; omega) | decide) w' h) rfl rfl rfl ?_; intro r25 hr25
    have br25 := srcS_b hr25 (by first | decide | omega)
    refine doM_v (fun _ => opV_mul rfl rfl (by first | exact i64_in ⟨by omega, by omega⟩ | rfl)) rfl rfl rfl rfl ?_
    refine doM_v (fun _ => opV_add rfl rfl (by first | exact i64_in ⟨by omega, by omega⟩ | rfl)) rfl rfl rfl rfl ?_
    refine doM_v (fun _ => opV_indexAddr ar38 rfl rfl (by first | decide | omega) (by first | decide | omega)) rfl rfl rfl rfl ?_
    refine doM_v (fun _ => opV_load1 3 ty2 rfl rfl rfl) rfl rfl rfl rfl ?_
    refine doM_v (fun _ => opV_move rfl) rfl rfl rfl rfl ?_
    refine doM_srcA (F := vI) hs en28 rfl (fun w' h => srcSigned _ (by first | omega | assumption | (unfold In64; omega) | decide) w' h) rfl rfl rfl ?_; intro r31 hr31
    have br31 := srcS_b hr31 (by first | decide | omega)
    refine doM_v (fun _ => opV_mul rfl rfl (by first | exact i64_in ⟨by omega, by omega⟩ | rfl)) rfl rfl rfl rfl ?_
    refine doM_v (fun _ => opV_add rfl rfl (by first | exact i64_in ⟨by omega, by omega⟩ | rfl)) rfl rfl rfl rfl ?_
    refine doM_v (fun _ => opV_build la38 rfl rfl) rfl rfl rfl rfl ?_
    refine doM_bslice (famA hs _) sl113 ze38 rfl rfl rfl rfl rfl rfl rfl rfl rfl rfl ?_
    refine doM_nil ?_
    refine tail_row ?_; intro bb35
    refine tail_appendA 8 app113 rfl rfl rfl rfl rfl rfl (by omega) (by omega) rfl rfl ?_; intro a36 c36 R36 hR36
    obtain rfl := Option.some.inj hR36
    refine doL_v (opV_assign rfl) rfl rfl rfl ?_
    refine doL_nil ?_
    refine post_block_normal ?_
    refine post_then ?_
    refine doC_region ?_
    refine doL_v (opV_move rfl) rfl rfl rfl ?_
    refine doL_v (opV_sub rfl rfl (dec_rem (by omega) h2)) rfl rfl rfl ?_
    refine doL_v (opV_assign rfl) rfl rfl rfl ?_
    refine doL_nil ?_
    refine post_again (k + 1, a36, c36) (by show k + 1 ≤ _; omega) (by show ptsN L i - (k + 1) < ptsN L i - k; omega) (by dsimp only; rw [ptsC_succ, hr19, hr25, hr31]; rfl) ?_ ?_ rfl
    repeat' first | exact trivial | exact True.intro | refine ⟨rfl, ?_⟩
  ·
    obtain rfl : k = ptsN L i := by have := of_decide_eq_false hc12; omega
    refine doC_exit ?_
    refine post_then_exit ?_
    refine post_then_exit ?_
    refine post_block_exit ?_
    refine post_then ?_
    refine doC_seq ?_
    refine doC_region ?_
    refine doL_v (opV_move rfl) rfl rfl rfl ?_
    refine doL_v (opV_assign rfl) rfl rfl rfl ?_
    refine doL_nil ?_
    refine post_then ?_
    refine doC_ret ?_
    refine post_ret (rs := [.tmp 4]) rfl (resC (resIs_tmp rfl) (resN)) rfl ?_
    intro w2 k2
    obtain ⟨_, q2, q3⟩ := k2.facts _ List.mem_cons_self
    exact ⟨(a, cap), trivial, rfl, k2.grow, ownD a, slc_dep _ _ _, fun q hq => ⟨(q2 q hq).1, (q2 q hq).2.1⟩, pts_slc q3⟩

end Go.Proofs.Ytonampcmhhhffaa

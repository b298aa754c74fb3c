/- What making a robot computes. No condition. -/
import Derived.Test.YtonampcmhhhffaaProg
import Derived.Test.YtonampcmhhhffaaVRob
import Derived.Test.YtonampcmhhhffaaVA1
import Derived.Test.YtonampcmhhhffaaVA2
import Derived.Test.YtonampcmhhhffaaVSrc
import Derived.Test.YtonampcmhhhffaaVK2
namespace Go.Proofs.Ytonampcmhhhffaa
open Go.Sx
theorem ze74 : zeroIs Try.prog 74 (.agg #[.slice none 0 0, .slice none 0 0]) := by unfold zeroIs; kernel_rfl
theorem fa74_0 : fieldB Try.prog 74 0 0 = true := by kernel_rfl
theorem ty71 : tyB Try.prog 71 false 1 = true := by kernel_rfl
theorem en128 : Enters Try.prog 128 := enters_of Try.func128 (by kernel_rfl) (by kernel_rfl)
theorem sl71 : slcB Try.prog 71 70 12 = true := by kernel_rfl
theorem app71 : appB Try.prog 71 70 12 104 = true := by kernel_rfl
theorem fa74_1 : fieldB Try.prog 74 1 1 = true := by kernel_rfl
theorem ty72 : tyB Try.prog 72 false 1 = true := by kernel_rfl
theorem la138 : layoutOf Try.prog 138 = some ([.int .i64 0, .int .i64 0, .int .i64 0, .int .i64 0, .int .i64 0], [(0, 1), (1, 1), (2, 3)]) := by kernel_rfl
theorem sl72 : slcB Try.prog 72 138 5 = true := by kernel_rfl
theorem ze138 : zeroIs Try.prog 138 (.agg #[.int .i64 0, .int .i64 0, .int .i64 0, .int .i64 0, .int .i64 0]) := by unfold zeroIs; kernel_rfl
theorem app72 : appB Try.prog 72 138 5 40 = true := by kernel_rfl
theorem ty74 : tyB Try.prog 74 true 2 = true := by kernel_rfl

theorem inc_nat {k : Nat} (h : k ≤ 1000000) : IntKind.i64.wrap ((k : Int) + 1) = ((k + 1 : Nat) : Int) := by
  refine (i64_in ?_).trans ?_ <;> omega
theorem dec_rem {n k : Nat} (hn : n ≤ 1000) (h : k < n) : IntKind.i64.wrap (((n - k : Nat) : Int) - 1) = ((n - (k + 1) : Nat) : Int) := by
  refine (i64_in ?_).trans ?_ <;> omega

theorem mkRobot {b : Nat} {sl : Value} {L : List Int} {i : Nat} (w : World) (hs : Src w b sl L i) : Calls Try.prog 98 [.pointer (some ⟨b, 0, none⟩)].toArray w (RetsF (X := (Option Addr × Nat) × (Option Addr × Nat)) (fun _ => True) (fun x => .agg #[.slice x.1.1 (nJ L i) x.1.2, .slice x.2.1 (nM L i) x.2.2]) (fun x w => SlcIs 12 x.1.1 ((jsOf L i (nJ L i)).1.map jc) w ∧ SlcIs 5 x.2.1 ((msOf L i (nM L i)).map mc) w) (srcW w b sl L (robQ L i))) := by
  refine calls_src (n := 49) hs Try.func98 rfl rfl rfl ?_
  refine doC_seq ?_
  refine doC_region ?_
  refine doL_alloc 2 ze74 rfl rfl rfl ?_; intro b2
  refine doL_nil ?_
  refine post_then ?_
  refine doC_seq ?_
  refine doC_region ?_
  refine doL_alloc 3 ze74 rfl rfl rfl ?_; intro b3
  refine doL_nil ?_
  refine post_then ?_
  refine doC_seq ?_
  refine doC_ownA 100 70 12 ?_
  refine doC_ownA 101 138 5 ?_
  have hn := nJ_b L i
  have hm := nM_b L i
  refine doC_region ?_
  refine doL_v (opV_move rfl) rfl rfl rfl ?_
  refine doL_srcA (F := vI) hs en30 rfl (fun w' h => srcNext _ (by first | omega | assumption | (unfold In64; omega) | decide) w' h) rfl rfl ?_; intro r8 hr8
  have br8 := srcR_b hr8 (by first | decide | omega)
  refine doL_v (opV_add rfl rfl (by first | exact i64_in ⟨by omega, by omega⟩ | rfl)) rfl rfl rfl ?_
  refine doL_v (opV_assign rfl) rfl rfl rfl ?_
  refine doL_nil ?_
  refine post_then ?_
  refine doC_seq ?_
  refine doC_seq ?_
  refine doC_region ?_
  refine doL_v (opV_assign rfl) rfl rfl rfl ?_
  refine doL_nil ?_
  refine post_then ?_
  refine doC_block ?_
  refine doC_loopK [0, 2, 3, 4] [2] (α := Nat × Option Addr × Nat) (fun x => nJ L i - x.1) (fun x => x.1 ≤ nJ L i) (fun x => srcB ⟨w, [(101, ownD none, OwnF 0 138 5 none 0 0 []), (100, ownD x.2.1, OwnF 0 70 12 x.2.1 x.2.2 x.1 (jsC L i x.1))]⟩ b sl L (jsOf L i x.1).2) (fun x => [(5, .int .i64 (x.1 : Int))]) (fun x => [(3, b3, [.slice x.2.1 x.1 x.2.2, .slice none 0 0], 74)]) (0, none, 0) rfl rfl ?_ ?_ ?_ ?_ rfl ?_
  ·
    exact Nat.zero_le _
  ·
    exact rfl
  ·
    repeat' first | exact trivial | exact True.intro | refine ⟨rfl, ?_⟩
  ·
    repeat' first | exact trivial | exact True.intro | refine ⟨rfl, ?_⟩
  rintro ⟨k, a, cap⟩ hk
  dsimp only at hk ⊢
  refine doC_seq ?_
  refine doC_seq ?_
  refine doC_region ?_
  refine doL_v (opV_move rfl) rfl rfl rfl ?_
  refine doL_v (opV_move rfl) rfl rfl rfl ?_
  refine doL_v (opV_lss rfl rfl) rfl rfl rfl ?_
  refine doL_nil ?_
  refine post_then ?_
  refine doC_cond rfl (fun hc12 => ?_) (fun hc12 => ?_)
  ·
    have h2 : k < nJ L i := by have := of_decide_eq_true hc12; omega
    refine doC_skip ?_
    refine post_then ?_
    refine doC_seq ?_
    refine doC_block ?_
    refine doC_srcA 6 [4] hs mo (by kernel_rfl) ?_
    simp only [List.take_succ_cons, List.take_zero, List.drop_succ_cons, List.drop_zero]
    refine doM_v (fun _ => opV_fieldAddr fa74_0 rfl) rfl rfl rfl rfl ?_
    refine doM_v (fun _ => opV_load1 3 ty71 rfl rfl rfl) rfl rfl rfl rfl ?_
    refine doM_v (fun _ => opV_move rfl) rfl rfl rfl rfl ?_
    refine doM_v (fun _ => opV_move rfl) rfl rfl rfl rfl ?_
    refine doM_srcA (F := jv) hs en128 rfl (fun w' h => mkJoint _ (by first | omega | assumption | (unfold In64; omega) | decide) w' h) rfl rfl rfl ?_; intro r19 hr19
    refine doM_bslice (famA hs _) sl71 ze70 rfl rfl rfl rfl rfl rfl rfl rfl rfl rfl ?_
    refine doM_nil ?_
    refine tail_row ?_; intro bb20
    refine tail_appendA 100 app71 rfl rfl rfl rfl rfl rfl (by omega) (by omega) rfl rfl ?_; intro a21 c21 R21 hR21
    obtain rfl := Option.some.inj hR21
    refine doL_v (opV_fieldAddr fa74_0 rfl) rfl rfl rfl ?_
    refine doL_store 3 ty71 rfl rfl rfl rfl rfl rfl rfl rfl ?_
    refine doL_nil ?_
    refine post_block_normal ?_
    refine post_then ?_
    refine doC_region ?_
    refine doL_v (opV_move rfl) rfl rfl rfl ?_
    refine doL_v (opV_add rfl rfl (inc_nat (by omega))) rfl rfl rfl ?_
    refine doL_v (opV_assign rfl) rfl rfl rfl ?_
    refine doL_nil ?_
    refine post_again (k + 1, a21, c21) (by show k + 1 ≤ _; omega) (by show nJ L i - (k + 1) < nJ L i - k; omega) (by dsimp only; rw [jsC_succ, ← hr19]; rfl) ?_ ?_ rfl
    repeat' first | exact trivial | exact True.intro | refine ⟨rfl, ?_⟩
  ·
    obtain rfl : k = nJ L i := by have := of_decide_eq_false hc12; omega
    refine doC_exit ?_
    refine post_then_exit ?_
    refine post_then_exit ?_
    refine post_block_exit ?_
    refine post_then ?_
    refine doC_seq ?_
    refine doC_seq ?_
    refine doC_region ?_
    refine doL_v (opV_move rfl) rfl rfl rfl ?_
    refine doL_srcA (F := vI) hs en30 rfl (fun w' h => srcNext _ (by first | omega | assumption | (unfold In64; omega) | decide) w' h) rfl rfl ?_; intro r24 hr24
    have br24 := srcR_b hr24 (by first | decide | omega)
    obtain rfl : r24 = ((nM L i : Nat) : Int) := by rw [hr24]; exact hm.2.symm
    refine doL_v (opV_assign rfl) rfl rfl rfl ?_
    refine doL_nil ?_
    refine post_then ?_
    refine doC_block ?_
    refine doC_loopK [0, 2, 3, 4] [2] (α := Nat × Option Addr × Nat) (fun x => nM L i - x.1) (fun x => x.1 ≤ nM L i) (fun x => srcB ⟨w, [(101, ownD x.2.1, OwnF 0 138 5 x.2.1 x.2.2 x.1 (msC L i x.1)), (100, ownD a, OwnF 0 70 12 a cap (nJ L i) (jsC L i (nJ L i)))]⟩ b sl L (mQ L i + 1 + 4 * x.1)) (fun x => [(6, .int .i64 ((nM L i - x.1 : Nat) : Int))]) (fun x => [(3, b3, [.slice a (nJ L i) cap, .slice x.2.1 x.1 x.2.2], 74)]) (0, none, 0) rfl rfl ?_ ?_ ?_ ?_ rfl ?_
    ·
      exact Nat.zero_le _
    ·
      exact rfl
    ·
      repeat' first | exact trivial | exact True.intro | refine ⟨rfl, ?_⟩
    ·
      repeat' first | exact trivial | exact True.intro | refine ⟨rfl, ?_⟩
    rintro ⟨k2, a2, cap2⟩ hk2
    dsimp only at hk2 ⊢
    refine doC_seq ?_
    refine doC_seq ?_
    refine doC_region ?_
    refine doL_v (opV_move rfl) rfl rfl rfl ?_
    refine doL_v (opV_gtr rfl rfl) rfl rfl rfl ?_
    refine doL_nil ?_
    refine post_then ?_
    refine doC_cond rfl (fun hc26 => ?_) (fun hc26 => ?_)
    ·
      have h3 : k2 < nM L i := by have := of_decide_eq_true hc26; omega
      refine doC_skip ?_
      refine post_then ?_
      refine doC_seq ?_
      refine doC_block ?_
      refine doC_srcA 17 [4, 6, 9, 12] hs mo (by kernel_rfl) ?_
      simp only [List.take_succ_cons, List.take_zero, List.drop_succ_cons, List.drop_zero]
      refine doM_v (fun _ => opV_fieldAddr fa74_1 rfl) rfl rfl rfl rfl ?_
      refine doM_v (fun _ => opV_load1 3 ty72 rfl rfl rfl) rfl rfl rfl rfl ?_
      refine doM_v (fun _ => opV_move rfl) rfl rfl rfl rfl ?_
      refine doM_v (fun _ => opV_move rfl) rfl rfl rfl rfl ?_
      refine doM_srcA (F := vI) hs en30 rfl (fun w' h => srcNext _ (by first | omega | assumption | (unfold In64; omega) | decide) w' h) rfl rfl rfl ?_; intro r33 hr33
      have br33 := srcR_b hr33 (by first | decide | omega)
      refine doM_v (fun _ => opV_move rfl) rfl rfl rfl rfl ?_
      refine doM_srcA (F := vI) hs en30 rfl (fun w' h => srcNext _ (by first | omega | assumption | (unfold In64; omega) | decide) w' h) rfl rfl rfl ?_; intro r35 hr35
      have br35 := srcR_b hr35 (by first | decide | omega)
      refine doM_v (fun _ => opV_add rfl rfl (by first | exact i64_in ⟨by omega, by omega⟩ | rfl)) rfl rfl rfl rfl ?_
      refine doM_v (fun _ => opV_move rfl) rfl rfl rfl rfl ?_
      refine doM_srcA (F := vI) hs en28 rfl (fun w' h => srcSigned _ (by first | omega | assumption | (unfold In64; omega) | decide) w' h) rfl rfl rfl ?_; intro r38 hr38
      have br38 := srcS_b hr38 (by first | decide | omega)
      refine doM_v (fun _ => opV_mul rfl rfl (by first | exact i64_in ⟨by omega, by omega⟩ | rfl)) rfl rfl rfl rfl ?_
      refine doM_v (fun _ => opV_move rfl) rfl rfl rfl rfl ?_
      refine doM_srcA (F := vI) hs en28 rfl (fun w' h => srcSigned _ (by first | omega | assumption | (unfold In64; omega) | decide) w' h) rfl rfl rfl ?_; intro r41 hr41
      have br41 := srcS_b hr41 (by first | decide | omega)
      refine doM_v (fun _ => opV_mul rfl rfl (by first | exact i64_in ⟨by omega, by omega⟩ | rfl)) rfl rfl rfl rfl ?_
      refine doM_v (fun _ => opV_build la38 rfl rfl) rfl rfl rfl rfl ?_
      refine doM_v (fun _ => opV_build la138 rfl rfl) rfl rfl rfl rfl ?_
      refine doM_bslice (famA hs _) sl72 ze138 rfl rfl rfl rfl rfl rfl rfl rfl rfl rfl ?_
      refine doM_nil ?_
      refine tail_row ?_; intro bb45
      refine tail_appendA 101 app72 rfl rfl rfl rfl rfl rfl (by omega) (by omega) rfl rfl ?_; intro a46 c46 R46 hR46
      obtain rfl := Option.some.inj hR46
      refine doL_v (opV_fieldAddr fa74_1 rfl) rfl rfl rfl ?_
      refine doL_store 3 ty72 rfl rfl rfl rfl rfl rfl rfl rfl ?_
      refine doL_nil ?_
      refine post_block_normal ?_
      refine post_then ?_
      refine doC_region ?_
      refine doL_v (opV_move rfl) rfl rfl rfl ?_
      refine doL_v (opV_sub rfl rfl (dec_rem (by omega) h3)) rfl rfl rfl ?_
      refine doL_v (opV_assign rfl) rfl rfl rfl ?_
      refine doL_nil ?_
      refine post_again (k2 + 1, a46, c46) (by show k2 + 1 ≤ _; omega) (by show nM L i - (k2 + 1) < nM L i - k2; omega) (by dsimp only; rw [msC_succ, hr33, hr35, hr38, hr41, hr8, hn.2.2]; rfl) ?_ ?_ rfl
      repeat' first | exact trivial | exact True.intro | refine ⟨rfl, ?_⟩
    ·
      obtain rfl : k2 = nM L i := by have := of_decide_eq_false hc26; omega
      refine doC_exit ?_
      refine post_then_exit ?_
      refine post_then_exit ?_
      refine post_block_exit ?_
      refine post_then ?_
      refine doC_seq ?_
      refine doC_region ?_
      refine doL_v (opV_loadA 3 ty74 rfl rfl rfl) rfl rfl rfl ?_
      refine doL_store 2 ty74 rfl rfl rfl rfl rfl rfl rfl rfl ?_
      refine doL_nil ?_
      refine post_then ?_
      refine doC_ret ?_
      refine post_ret (rs := [.cell 2 74]) rfl (resC (resIs_cell 2 rfl rfl ty74 rfl) (resN)) rfl ?_
      intro w2 kn
      obtain ⟨_, q2, q3⟩ := kn.facts _ List.mem_cons_self
      obtain ⟨_, q5, q6⟩ := kn.facts _ (List.mem_cons_of_mem _ List.mem_cons_self)
      exact ⟨((a, cap), (a2, cap2)), trivial, rfl, kn.grow, told_and ⟨ownD a, slc_dep _ _ _, fun q hq => ⟨(q5 q hq).1, (q5 q hq).2.1⟩, js_slc q6⟩ ⟨ownD a2, slc_dep _ _ _, fun q hq => ⟨(q2 q hq).1, (q2 q hq).2.1⟩, ms_slc q3⟩⟩

end Go.Proofs.Ytonampcmhhhffaa

/- What making a box computes. No condition. -/
import Derived.Test.YtonampcmhhhffaaProg
import Derived.Test.YtonampcmhhhffaaVBox
import Derived.Test.YtonampcmhhhffaaVA1
import Derived.Test.YtonampcmhhhffaaVA2
import Derived.Test.YtonampcmhhhffaaVSrc
import Derived.Test.YtonampcmhhhffaaVK2
import Derived.Test.YtonampcmhhhffaaVK3
namespace Go.Proofs.Ytonampcmhhhffaa
open Go.Sx
theorem en26 : Enters Try.prog 26 := enters_of Try.func26 (by kernel_rfl) (by kernel_rfl)
theorem sl80 : slcB Try.prog 80 23 2 = true := by kernel_rfl
theorem app80 : appB Try.prog 80 23 2 16 = true := by kernel_rfl

theorem mkBox (lv : Value) (l : List Int) (aj am : Option Addr) (cj nm cm : Nat) (js : List J) (hn : js.length ≤ 1000) (hjs : ∀ j ∈ js, JB j) (w : World) (hl : IntsAt w w.heap.size lv l) (hS : SlcIs 12 aj (js.map jc) w) : Calls Try.prog 57 [.agg #[.slice aj js.length cj, .slice am nm cm], lv].toArray w (RetsF (X := Option Addr × Nat) (fun _ => True) (fun x => .slice x.1 js.length x.2) (fun x => SlcIs 2 x.1 ((bxs l js js.length).1.map ivc)) w) := by
  refine calls_of_doC (n := 68) Try.func57 rfl rfl rfl ?_
  refine doC_seq ?_
  refine doC_region ?_
  refine doL_box 2 rfl rfl rfl rfl ?_; intro b2
  refine doL_v (opV_assign rfl) rfl rfl rfl ?_
  refine doL_nil ?_
  refine post_then ?_
  refine doC_seq ?_
  refine doC_region ?_
  refine doL_v (opV_move rfl) rfl rfl rfl ?_
  refine doL_callNew 13 en26 rfl (fun w' k => mFrom w' (intsAt_grow hl k.grow (Nat.le_refl _))) rfl rfl ?_; intro b13
  refine doL_v (opV_assign rfl) rfl rfl rfl ?_
  refine doL_nil ?_
  refine post_then ?_
  refine doC_seq ?_
  refine doC_region ?_
  refine doL_v (opV_assign rfl) rfl rfl rfl ?_
  refine doL_nil ?_
  refine post_then ?_
  refine doC_seq ?_
  refine doC_seq ?_
  refine doC_own 100 23 2 ?_
  refine doC_region ?_
  refine doL_v (opV_assign rfl) rfl rfl rfl ?_
  refine doL_nil ?_
  refine post_then ?_
  refine doC_block ?_
  refine doC_loopK [2, 5] [2] (α := Nat × Nat × Option Addr × Nat × List Iv) (fun x => js.length - x.1) (fun x => x.1 ≤ js.length ∧ bxs l js x.1 = (x.2.2.2.2, x.2.1) ∧ x.2.2.2.2.length = x.1) (fun x => ⟨w, [(100, ownD x.2.2.1, OwnF 0 23 2 x.2.2.1 x.2.2.2.1 x.1 (ivC x.2.2.2.2))]⟩) (fun x => [(6, .slice x.2.2.1 x.1 x.2.2.2.1), (7, .int .i64 (x.1 : Int))]) (fun x => [(13, b13, srcC lv l x.2.1, 105)]) (0, 0, none, 0, []) rfl rfl ?_ ?_ ?_ ?_ rfl ?_
  ·
    exact ⟨Nat.zero_le _, rfl, rfl⟩
  ·
    exact rfl
  ·
    repeat' first | exact trivial | exact True.intro | refine ⟨rfl, ?_⟩
  ·
    repeat' first | exact trivial | exact True.intro | refine ⟨rfl, ?_⟩
  rintro ⟨k, q, a, cap, rows⟩ ⟨hk, hsh, hlen⟩
  dsimp only at hk hsh hlen ⊢
  refine doC_seq ?_
  refine doC_seq ?_
  refine doC_region ?_
  refine doL_v (opV_move rfl) rfl rfl rfl ?_
  refine doL_v (opV_fieldAddr fa74_0 rfl) rfl rfl rfl ?_
  refine doL_v (opV_load1 2 ty71 rfl rfl rfl) rfl rfl rfl ?_
  refine doL_v (opV_len_slice sl71 rfl) rfl rfl rfl ?_
  refine doL_v (opV_lss rfl rfl) rfl rfl rfl ?_
  refine doL_nil ?_
  refine post_then ?_
  refine doC_cond rfl (fun hc18 => ?_) (fun hc18 => ?_)
  ·
    have h2 : k < js.length := by have := of_decide_eq_true hc18; omega
    obtain ⟨j, hjk⟩ : ∃ j, js[k]? = some j := ⟨_, List.getElem?_eq_getElem h2⟩
    have hj : (js.map jc)[k]? = some (jc j) := by rw [List.getElem?_map, hjk]; rfl
    obtain ⟨bj1, bj2, bj3⟩ := hjs j (List.mem_of_getElem? hjk)
    refine doC_skip ?_
    refine post_then ?_
    refine doC_seq ?_
    refine doC_block ?_
    refine doC_seq ?_
    refine doC_all mo (by kernel_rfl) ?_
    refine doG_v (opV_fieldAddr fa74_0 rfl) rfl rfl rfl ?_
    refine doG_v (opV_load1 2 ty71 rfl rfl rfl) rfl rfl rfl ?_
    refine doG_v (opV_move rfl) rfl rfl rfl ?_
    refine doG_v (opV_indexS (e := 70) (holds_base hS) (by kernel_rfl) rfl rfl rfl hj h2) rfl rfl rfl ?_
    refine doG_v (opV_fieldS (holds_base hS) hj fa70_4 rfl) rfl rfl rfl ?_
    refine doG_v (opV_loadS1 k 6 (holds_base hS) hj ty2 rfl rfl) rfl rfl rfl ?_
    refine doG_v (opV_fieldAddr fa74_0 rfl) rfl rfl rfl ?_
    refine doG_v (opV_load1 2 ty71 rfl rfl rfl) rfl rfl rfl ?_
    refine doG_v (opV_move rfl) rfl rfl rfl ?_
    refine doG_v (opV_indexS (e := 70) (holds_base hS) (by kernel_rfl) rfl rfl rfl hj h2) rfl rfl rfl ?_
    refine doG_v (opV_fieldS (holds_base hS) hj fa70_5 rfl) rfl rfl rfl ?_
    refine doG_v (opV_loadS1 k 7 (holds_base hS) hj ty2 rfl rfl) rfl rfl rfl ?_
    refine doG_v (opV_assign rfl) rfl rfl rfl ?_
    refine doG_v (opV_assign rfl) rfl rfl rfl ?_
    refine doG_nil ?_
    refine post_then ?_
    refine doC_seq ?_
    refine doC_region ?_
    refine doL_v (opV_move rfl) rfl rfl rfl ?_
    refine doL_v (opV_move rfl) rfl rfl rfl ?_
    refine doL_v (opV_move rfl) rfl rfl rfl ?_
    refine doL_v (opV_move rfl) rfl rfl rfl ?_
    refine doL_v (opV_sub rfl rfl (by first | exact i64_in ⟨by omega, by omega⟩ | rfl)) rfl rfl rfl ?_
    refine doL_v (opV_add rfl rfl (by first | exact i64_in ⟨by omega, by omega⟩ | rfl)) rfl rfl rfl ?_
    refine doL_srcB (F := vI) 13 hl rfl en30 rfl (fun w' h => srcNext _ (by first | omega | assumption | (unfold In64; omega) | decide) w' h) rfl rfl rfl ?_; intro r39 hr39
    have br39 := srcR_b hr39 (by first | decide | omega)
    refine doL_v (opV_add rfl rfl (by first | exact i64_in ⟨by omega, by omega⟩ | rfl)) rfl rfl rfl ?_
    refine doL_v (opV_assign rfl) rfl rfl rfl ?_
    refine doL_nil ?_
    refine post_then ?_
    refine doC_seq ?_
    refine doC_region ?_
    refine doL_v (opV_assign rfl) rfl rfl rfl ?_
    refine doL_nil ?_
    refine post_then ?_
    refine doC_seq ?_
    refine doC_seq ?_
    refine doC_region ?_
    refine doL_v (opV_move rfl) rfl rfl rfl ?_
    refine doL_srcB (F := vI) 13 hl rfl en30 rfl (fun w' h => srcNext _ (by first | omega | assumption | (unfold In64; omega) | decide) w' h) rfl rfl rfl ?_; intro r42 hr42
    have br42 := srcR_b hr42 (by first | decide | omega)
    refine doL_nil ?_
    refine post_then ?_
    refine doC_block ?_
    refine doC_seq ?_
    refine doC_region ?_
    refine doL_v (opV_eql rfl rfl) rfl rfl rfl ?_
    refine doL_v (opV_assign rfl) rfl rfl rfl ?_
    refine doL_nil ?_
    refine post_then ?_
    refine doC_cond rfl (fun hc43 => ?_) (fun hc43 => ?_)
    ·
      refine doC_region ?_
      refine doL_v (opV_move rfl) rfl rfl rfl ?_
      refine doL_v (opV_move rfl) rfl rfl rfl ?_
      refine doL_v (opV_sub rfl rfl (by first | exact i64_in ⟨by omega, by omega⟩ | rfl)) rfl rfl rfl ?_
      refine doL_v (opV_assign rfl) rfl rfl rfl ?_
      refine doL_nil ?_
      refine post_block_normal ?_
      refine post_then ?_
      refine doC_region ?_
      refine doL_v (opV_move rfl) rfl rfl rfl ?_
      refine doL_v (opV_move rfl) rfl rfl rfl ?_
      refine doL_v (opV_move rfl) rfl rfl rfl ?_
      refine doL_v (opV_move rfl) rfl rfl rfl ?_
      refine doL_v (opV_move rfl) rfl rfl rfl ?_
      refine doL_v (opV_add rfl rfl (by first | exact i64_in ⟨by omega, by omega⟩ | rfl)) rfl rfl rfl ?_
      refine doL_v (opV_min2 rfl rfl) rfl rfl rfl ?_
      refine doL_v (opV_build la23 rfl rfl) rfl rfl rfl ?_
      refine doL_bslice 65 sl80 ze23 rfl rfl rfl rfl rfl rfl rfl rfl ?_; intro b65
      refine doL_append (id2 := 65) 100 app80 rfl rfl rfl rfl rfl rfl rfl (by omega) (by omega) rfl rfl ?_; intro a66 c66 R66 hR66
      obtain rfl := Option.some.inj hR66
      refine doL_v (opV_assign rfl) rfl rfl rfl ?_
      refine doL_nil ?_
      refine post_block_normal ?_
      refine post_then ?_
      refine doC_region ?_
      refine doL_v (opV_move rfl) rfl rfl rfl ?_
      refine doL_v (opV_add rfl rfl (inc_nat (by omega))) rfl rfl rfl ?_
      refine doL_v (opV_assign rfl) rfl rfl rfl ?_
      refine doL_nil ?_
      refine post_again (k + 1, q + 1 + 1, a66, c66, rows ++ [⟨j.lo + r39, min j.hi (j.lo + r39 + (j.hi - j.lo))⟩]) (by refine ⟨?_, ?_, ?_⟩ <;> dsimp only; omega; exact bx_step hjk hsh hr39 (bxW_0 hr42 (of_decide_eq_true hc43)); simp [hlen]) (by show js.length - (k + 1) < js.length - k; omega) (by dsimp only; rw [ivC_snoc]; rfl) ?_ ?_ rfl
      repeat' first | exact trivial | exact True.intro | refine ⟨rfl, ?_⟩
    ·
      refine doC_seq ?_
      refine doC_seq ?_
      refine doC_region ?_
      refine doL_v (opV_eql rfl rfl) rfl rfl rfl ?_
      refine doL_v (opV_assign rfl) rfl rfl rfl ?_
      refine doL_nil ?_
      refine post_then ?_
      refine doC_cond rfl (fun hc48 => ?_) (fun hc48 => ?_)
      ·
        refine doC_skip ?_
        refine post_then ?_
        refine doC_cond_t rfl (hc48) ?_
        refine doC_region ?_
        refine doL_v (opV_move rfl) rfl rfl rfl ?_
        refine doL_srcB (F := vI) 13 hl rfl en30 rfl (fun w' h => srcNext _ (by first | omega | assumption | (unfold In64; omega) | decide) w' h) rfl rfl rfl ?_; intro r52 hr52
        have br52 := srcR_b hr52 (by first | decide | omega)
        refine doL_v (opV_assign rfl) rfl rfl rfl ?_
        refine doL_nil ?_
        refine post_block_normal ?_
        refine post_then ?_
        refine doC_region ?_
        refine doL_v (opV_move rfl) rfl rfl rfl ?_
        refine doL_v (opV_move rfl) rfl rfl rfl ?_
        refine doL_v (opV_move rfl) rfl rfl rfl ?_
        refine doL_v (opV_move rfl) rfl rfl rfl ?_
        refine doL_v (opV_move rfl) rfl rfl rfl ?_
        refine doL_v (opV_add rfl rfl (by first | exact i64_in ⟨by omega, by omega⟩ | rfl)) rfl rfl rfl ?_
        refine doL_v (opV_min2 rfl rfl) rfl rfl rfl ?_
        refine doL_v (opV_build la23 rfl rfl) rfl rfl rfl ?_
        refine doL_bslice 65 sl80 ze23 rfl rfl rfl rfl rfl rfl rfl rfl ?_; intro b65
        refine doL_append (id2 := 65) 100 app80 rfl rfl rfl rfl rfl rfl rfl (by omega) (by omega) rfl rfl ?_; intro a66 c66 R66 hR66
        obtain rfl := Option.some.inj hR66
        refine doL_v (opV_assign rfl) rfl rfl rfl ?_
        refine doL_nil ?_
        refine post_block_normal ?_
        refine post_then ?_
        refine doC_region ?_
        refine doL_v (opV_move rfl) rfl rfl rfl ?_
        refine doL_v (opV_add rfl rfl (inc_nat (by omega))) rfl rfl rfl ?_
        refine doL_v (opV_assign rfl) rfl rfl rfl ?_
        refine doL_nil ?_
        refine post_again (k + 1, q + 1 + 1 + 1, a66, c66, rows ++ [⟨j.lo + r39, min j.hi (j.lo + r39 + r52)⟩]) (by refine ⟨?_, ?_, ?_⟩ <;> dsimp only; omega; exact bx_step hjk hsh hr39 (bxW_1 hr42 (.inl (of_decide_eq_true hc48)) hr52); simp [hlen]) (by show js.length - (k + 1) < js.length - k; omega) (by dsimp only; rw [ivC_snoc]; rfl) ?_ ?_ rfl
        repeat' first | exact trivial | exact True.intro | refine ⟨rfl, ?_⟩
      ·
        refine doC_region ?_
        refine doL_v (opV_eql rfl rfl) rfl rfl rfl ?_
        refine doL_v (opV_assign rfl) rfl rfl rfl ?_
        refine doL_nil ?_
        refine post_then ?_
        refine doC_cond rfl (fun hc48_2 => ?_) (fun hc48_2 => ?_)
        ·
          refine doC_region ?_
          refine doL_v (opV_move rfl) rfl rfl rfl ?_
          refine doL_srcB (F := vI) 13 hl rfl en30 rfl (fun w' h => srcNext _ (by first | omega | assumption | (unfold In64; omega) | decide) w' h) rfl rfl rfl ?_; intro r52 hr52
          have br52 := srcR_b hr52 (by first | decide | omega)
          refine doL_v (opV_assign rfl) rfl rfl rfl ?_
          refine doL_nil ?_
          refine post_block_normal ?_
          refine post_then ?_
          refine doC_region ?_
          refine doL_v (opV_move rfl) rfl rfl rfl ?_
          refine doL_v (opV_move rfl) rfl rfl rfl ?_
          refine doL_v (opV_move rfl) rfl rfl rfl ?_
          refine doL_v (opV_move rfl) rfl rfl rfl ?_
          refine doL_v (opV_move rfl) rfl rfl rfl ?_
          refine doL_v (opV_add rfl rfl (by first | exact i64_in ⟨by omega, by omega⟩ | rfl)) rfl rfl rfl ?_
          refine doL_v (opV_min2 rfl rfl) rfl rfl rfl ?_
          refine doL_v (opV_build la23 rfl rfl) rfl rfl rfl ?_
          refine doL_bslice 65 sl80 ze23 rfl rfl rfl rfl rfl rfl rfl rfl ?_; intro b65
          refine doL_append (id2 := 65) 100 app80 rfl rfl rfl rfl rfl rfl rfl (by omega) (by omega) rfl rfl ?_; intro a66 c66 R66 hR66
          obtain rfl := Option.some.inj hR66
          refine doL_v (opV_assign rfl) rfl rfl rfl ?_
          refine doL_nil ?_
          refine post_block_normal ?_
          refine post_then ?_
          refine doC_region ?_
          refine doL_v (opV_move rfl) rfl rfl rfl ?_
          refine doL_v (opV_add rfl rfl (inc_nat (by omega))) rfl rfl rfl ?_
          refine doL_v (opV_assign rfl) rfl rfl rfl ?_
          refine doL_nil ?_
          refine post_again (k + 1, q + 1 + 1 + 1, a66, c66, rows ++ [⟨j.lo + r39, min j.hi (j.lo + r39 + r52)⟩]) (by refine ⟨?_, ?_, ?_⟩ <;> dsimp only; omega; exact bx_step hjk hsh hr39 (bxW_1 hr42 (.inr (of_decide_eq_true hc48_2)) hr52); simp [hlen]) (by show js.length - (k + 1) < js.length - k; omega) (by dsimp only; rw [ivC_snoc]; rfl) ?_ ?_ rfl
          repeat' first | exact trivial | exact True.intro | refine ⟨rfl, ?_⟩
        ·
          refine doC_seq ?_
          refine doC_region ?_
          refine doL_v (opV_eql rfl rfl) rfl rfl rfl ?_
          refine doL_v (opV_assign rfl) rfl rfl rfl ?_
          refine doL_nil ?_
          refine post_then ?_
          refine doC_cond rfl (fun hc53 => ?_) (fun hc53 => ?_)
          ·
            refine doC_region ?_
            refine doL_v (opV_move rfl) rfl rfl rfl ?_
            refine doL_srcB (F := vI) 13 hl rfl en30 rfl (fun w' h => srcNext _ (by first | omega | assumption | (unfold In64; omega) | decide) w' h) rfl rfl rfl ?_; intro r56 hr56
            have br56 := srcR_b hr56 (by first | decide | omega)
            refine doL_v (opV_assign rfl) rfl rfl rfl ?_
            refine doL_nil ?_
            refine post_block_normal ?_
            refine post_then ?_
            refine doC_region ?_
            refine doL_v (opV_move rfl) rfl rfl rfl ?_
            refine doL_v (opV_move rfl) rfl rfl rfl ?_
            refine doL_v (opV_move rfl) rfl rfl rfl ?_
            refine doL_v (opV_move rfl) rfl rfl rfl ?_
            refine doL_v (opV_move rfl) rfl rfl rfl ?_
            refine doL_v (opV_add rfl rfl (by first | exact i64_in ⟨by omega, by omega⟩ | rfl)) rfl rfl rfl ?_
            refine doL_v (opV_min2 rfl rfl) rfl rfl rfl ?_
            refine doL_v (opV_build la23 rfl rfl) rfl rfl rfl ?_
            refine doL_bslice 65 sl80 ze23 rfl rfl rfl rfl rfl rfl rfl rfl ?_; intro b65
            refine doL_append (id2 := 65) 100 app80 rfl rfl rfl rfl rfl rfl rfl (by omega) (by omega) rfl rfl ?_; intro a66 c66 R66 hR66
            obtain rfl := Option.some.inj hR66
            refine doL_v (opV_assign rfl) rfl rfl rfl ?_
            refine doL_nil ?_
            refine post_block_normal ?_
            refine post_then ?_
            refine doC_region ?_
            refine doL_v (opV_move rfl) rfl rfl rfl ?_
            refine doL_v (opV_add rfl rfl (inc_nat (by omega))) rfl rfl rfl ?_
            refine doL_v (opV_assign rfl) rfl rfl rfl ?_
            refine doL_nil ?_
            refine post_again (k + 1, q + 1 + 1 + 1, a66, c66, rows ++ [⟨j.lo + r39, min j.hi (j.lo + r39 + r56)⟩]) (by refine ⟨?_, ?_, ?_⟩ <;> dsimp only; omega; exact bx_step hjk hsh hr39 (bxW_3 hr42 (of_decide_eq_true hc53) hr56); simp [hlen]) (by show js.length - (k + 1) < js.length - k; omega) (by dsimp only; rw [ivC_snoc]; rfl) ?_ ?_ rfl
            repeat' first | exact trivial | exact True.intro | refine ⟨rfl, ?_⟩
          ·
            refine doC_skip ?_
            refine post_block_normal ?_
            refine post_then ?_
            refine doC_region ?_
            refine doL_v (opV_move rfl) rfl rfl rfl ?_
            refine doL_v (opV_move rfl) rfl rfl rfl ?_
            refine doL_v (opV_move rfl) rfl rfl rfl ?_
            refine doL_v (opV_move rfl) rfl rfl rfl ?_
            refine doL_v (opV_move rfl) rfl rfl rfl ?_
            refine doL_v (opV_add rfl rfl (by first | exact i64_in ⟨by omega, by omega⟩ | rfl)) rfl rfl rfl ?_
            refine doL_v (opV_min2 rfl rfl) rfl rfl rfl ?_
            refine doL_v (opV_build la23 rfl rfl) rfl rfl rfl ?_
            refine doL_bslice 65 sl80 ze23 rfl rfl rfl rfl rfl rfl rfl rfl ?_; intro b65
            refine doL_append (id2 := 65) 100 app80 rfl rfl rfl rfl rfl rfl rfl (by omega) (by omega) rfl rfl ?_; intro a66 c66 R66 hR66
            obtain rfl := Option.some.inj hR66
            refine doL_v (opV_assign rfl) rfl rfl rfl ?_
            refine doL_nil ?_
            refine post_block_normal ?_
            refine post_then ?_
            refine doC_region ?_
            refine doL_v (opV_move rfl) rfl rfl rfl ?_
            refine doL_v (opV_add rfl rfl (inc_nat (by omega))) rfl rfl rfl ?_
            refine doL_v (opV_assign rfl) rfl rfl rfl ?_
            refine doL_nil ?_
            refine post_again (k + 1, q + 1 + 1, a66, c66, rows ++ [⟨j.lo + r39, min j.hi (j.lo + r39 + 0)⟩]) (by refine ⟨?_, ?_, ?_⟩ <;> dsimp only; omega; exact bx_step hjk hsh hr39 (bxW_4 hr42 (of_decide_eq_false hc43) (of_decide_eq_false hc48) (of_decide_eq_false hc48_2) (of_decide_eq_false hc53)); simp [hlen]) (by show js.length - (k + 1) < js.length - k; omega) (by dsimp only; rw [ivC_snoc]; rfl) ?_ ?_ rfl
            repeat' first | exact trivial | exact True.intro | refine ⟨rfl, ?_⟩
  ·
    obtain rfl : k = js.length := by have := of_decide_eq_false hc18; omega
    refine doC_exit ?_
    refine post_then_exit ?_
    refine post_then_exit ?_
    refine post_block_exit ?_
    refine post_then ?_
    refine doC_seq ?_
    refine doC_region ?_
    refine doL_v (opV_move rfl) rfl rfl rfl ?_
    refine doL_v (opV_assign rfl) rfl rfl rfl ?_
    refine doL_nil ?_
    refine post_then ?_
    refine doC_ret ?_
    refine post_ret (rs := [.tmp 4]) rfl (resC (resIs_tmp rfl) (resN)) rfl ?_
    intro w2 k2
    obtain ⟨_, q2, q3⟩ := k2.facts _ List.mem_cons_self
    exact ⟨(a, cap), trivial, rfl, k2.grow, ownD a, slc_dep _ _ _, fun z hz => ⟨(q2 z hz).1, (q2 z hz).2.1⟩, by dsimp only; rw [hsh]; exact iv_slc hlen q3⟩

end Go.Proofs.Ytonampcmhhhffaa

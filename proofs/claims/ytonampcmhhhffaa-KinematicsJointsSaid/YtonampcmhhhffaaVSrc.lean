/- What taking from a source of numbers computes. No condition. -/
import Derived.Test.YtonampcmhhhffaaProg
import Derived.Test.YtonampcmhhhffaaVSxTellM
import Derived.Test.YtonampcmhhhffaaVSxIdx
import Derived.Test.YtonampcmhhhffaaVA1
import Derived.Test.YtonampcmhhhffaaVA2
namespace Go.Proofs.Ytonampcmhhhffaa
open Go.Sx
theorem la105 : layoutOf Try.prog 105 = some ([.slice none 0 0, .int .i64 0], [(0, 1), (1, 1)]) := by kernel_rfl
theorem fa105_1 : fieldB Try.prog 105 1 1 = true := by kernel_rfl
theorem ty3 : tyB Try.prog 3 false 1 = true := by kernel_rfl
theorem fa105_0 : fieldB Try.prog 105 0 0 = true := by kernel_rfl
theorem ty31 : tyB Try.prog 31 false 1 = true := by kernel_rfl
theorem sl31 : slcB Try.prog 31 3 1 = true := by kernel_rfl
theorem en22 : Enters Try.prog 22 := enters_of Try.func22 (by kernel_rfl) (by kernel_rfl)
theorem en30 : Enters Try.prog 30 := enters_of Try.func30 (by kernel_rfl) (by kernel_rfl)

theorem src_inc {i : Nat} {L : List Int} (hl : L.length ≤ 9223372036854775807) (h : i < L.length) : IntKind.i64.wrap (((min i L.length : Nat) : Int) + 1) = ((min (i + 1) L.length : Nat) : Int) := by
  refine (i64_in ?_).trans ?_ <;> omega
theorem src_dec {i : Nat} {L : List Int} (hl : L.length ≤ 9223372036854775807) (h : i < L.length) : IntKind.i64.wrap (((min (i + 1) L.length : Nat) : Int) - 1) = (i : Int) := by
  refine (i64_in ?_).trans ?_ <;> omega
theorem src_out {w : World} {b i : Nat} {sl : Value} {L : List Int} (h : L.length ≤ i) : srcW w b sl L i = srcW w b sl L (i + 1) := by
  unfold srcW srcC
  rw [show min i L.length = min (i + 1) L.length by omega]
theorem src_outB {B : Base} {b i : Nat} {sl : Value} {L : List Int} (h : L.length ≤ i) : srcB B b sl L i = srcB B b sl L (i + 1) := by
  unfold srcB; rw [src_out h]
theorem srcR_out {i : Nat} {L : List Int} (k : Int) (h : L.length ≤ i) : (0 : Int) = srcR L i k := by
  unfold srcR
  simp [List.getD_eq_getElem?_getD, List.getElem?_eq_none h]

theorem mFrom0  (a : Option Addr) (cap : Nat) (L : List Int) (w : World) : Calls Try.prog 26 [.slice a L.length cap].toArray w (RetsT (NewT w (srcC (.slice a L.length cap) L 0) 105) w) := by
  refine calls_of_doC (n := 6) Try.func26 rfl rfl rfl ?_
  refine doC_seq ?_
  refine doC_region ?_
  refine doL_v (opV_assign rfl) rfl rfl rfl ?_
  refine doL_nil ?_
  refine post_then ?_
  refine doC_seq ?_
  refine doC_region ?_
  refine doL_v (opV_move rfl) rfl rfl rfl ?_
  refine doL_v (opV_build la105 rfl rfl) rfl rfl rfl ?_
  refine doL_box 5 rfl rfl rfl rfl ?_; intro b5
  refine doL_v (opV_assign rfl) rfl rfl rfl ?_
  refine doL_nil ?_
  refine post_then ?_
  refine doC_ret ?_
  refine post_ret (rs := [.tmp 2]) rfl (resC (resIs_tmp rfl) (resN)) rfl ?_
  intro w2 k
  rw [srcC_zero]
  exact ⟨_, rfl, k.grow, _, rfl, (k.at (i := 5) rfl).1, (k.at (i := 5) rfl).2⟩

theorem mFrom {sl : Value} {L : List Int} {m : Nat} (w : World) (h : IntsAt w m sl L) : Calls Try.prog 26 [sl].toArray w (RetsT (NewT w (srcC sl L 0) 105) w) := by
  obtain ⟨_, a, cap, rfl, _⟩ := h
  exact mFrom0 a cap L w

theorem srcNext {b : Nat} {sl : Value} {L : List Int} {i : Nat} (k : Int) (hk : 0 < k ∧ k ≤ 9223372036854775807) (w : World) (hs : Src w b sl L i) : Calls Try.prog 30 [.pointer (some ⟨b, 0, none⟩), .int .i64 k].toArray w (Rets (vI (srcR L i k)) (srcW w b sl L (i + 1))) := by
  refine calls_src (n := 35) hs Try.func30 rfl rfl rfl ?_
  refine doC_seq ?_
  obtain ⟨t0, hb⟩ := hs.blk
  obtain ⟨hlen, a, cap, rfl, hcell⟩ := hs.ints
  refine doC_region ?_
  refine doL_v (opV_assign rfl) rfl rfl rfl ?_
  refine doL_nil ?_
  refine post_then ?_
  refine doC_seq ?_
  refine doC_seq ?_
  refine doC_drawn 9 mo (by kernel_rfl) ?_
  simp only [List.take_succ_cons, List.take_zero, List.drop_succ_cons, List.drop_zero]
  refine doG_v (opV_move rfl) rfl rfl rfl ?_
  refine doG_v (opV_nilCheck rfl) rfl rfl rfl ?_
  refine doG_v (opV_fieldAddr fa105_1 rfl) rfl rfl rfl ?_
  refine doG_v (opV_load_base (B := ⟨w, []⟩) hb ty3 rfl rfl) rfl rfl rfl ?_
  refine doG_v (opV_move rfl) rfl rfl rfl ?_
  refine doG_v (opV_nilCheck rfl) rfl rfl rfl ?_
  refine doG_v (opV_fieldAddr fa105_0 rfl) rfl rfl rfl ?_
  refine doG_v (opV_load_base (B := ⟨w, []⟩) hb ty31 rfl rfl) rfl rfl rfl ?_
  refine doG_v (opV_len_slice sl31 rfl) rfl rfl rfl ?_
  refine doG_nil ?_
  refine tail_nil ?_
  refine doL_v (opV_geq rfl rfl) rfl rfl rfl ?_
  refine doL_nil ?_
  refine post_then ?_
  refine doC_cond rfl (fun hc14 => ?_) (fun hc14 => ?_)
  ·
    have h2 : L.length ≤ i := by have := of_decide_eq_true hc14; omega
    rw [src_outB h2]
    refine doC_seq ?_
    refine doC_region ?_
    refine doL_v (opV_assign rfl) rfl rfl rfl ?_
    refine doL_nil ?_
    refine post_then ?_
    refine doC_ret ?_
    refine post_then_ret ?_
    refine post_rets (rs := [.tmp 4]) rfl (resC (resIs_tmp rfl) (resN)) (congrArg (vI) (?_ : _ = srcR L i k))
    exact srcR_out k h2
  ·
    have h2 : i < L.length := by have := of_decide_eq_false hc14; omega
    obtain ⟨bb, off, rfl, hbb, hcc⟩ := hcell i h2
    have hlt := heap_lt hb
    refine doC_skip ?_
    refine post_then ?_
    refine doC_seq ?_
    refine doC_region ?_
    refine doL_v (opV_move rfl) rfl rfl rfl ?_
    refine doL_v (opV_nilCheck rfl) rfl rfl rfl ?_
    refine doL_v (opV_fieldAddr fa105_1 rfl) rfl rfl rfl ?_
    refine doL_v (opV_load_base (B := ⟨w, []⟩) hb ty3 rfl rfl) rfl rfl rfl ?_
    refine doL_v (opV_add rfl rfl (src_inc hlen h2)) rfl rfl rfl ?_
    refine doL_v (opV_nilCheck rfl) rfl rfl rfl ?_
    refine doL_v (opV_fieldAddr fa105_1 rfl) rfl rfl rfl ?_
    refine doL_store_base (B := ⟨w, []⟩) hb ty3 rfl rfl rfl rfl rfl rfl ?_
    refine doL_nil ?_
    refine post_then ?_
    refine doC_seq ?_
    refine doC_drawn 13 mo (by kernel_rfl) ?_
    simp only [List.take_succ_cons, List.take_zero, List.drop_succ_cons, List.drop_zero]
    refine doG_v (opV_move rfl) rfl rfl rfl ?_
    refine doG_v (opV_nilCheck rfl) rfl rfl rfl ?_
    refine doG_v (opV_fieldAddr fa105_0 rfl) rfl rfl rfl ?_
    refine doG_v (opV_load_base (B := ⟨w, []⟩) hb ty31 rfl rfl) rfl rfl rfl ?_
    refine doG_v (opV_move rfl) rfl rfl rfl ?_
    refine doG_v (opV_nilCheck rfl) rfl rfl rfl ?_
    refine doG_v (opV_fieldAddr fa105_1 rfl) rfl rfl rfl ?_
    refine doG_v (opV_load_base (B := ⟨w, []⟩) hb ty3 rfl rfl) rfl rfl rfl ?_
    refine doG_v (opV_sub rfl rfl (src_dec hlen h2)) rfl rfl rfl ?_
    refine doG_v (opV_indexSlice sl31 rfl rfl (by first | decide | omega) (by first | decide | omega)) rfl rfl rfl ?_
    refine doG_v (opV_load1_old ty3 rfl (by simp [Base.setRow]; omega) ((cell_setRow_other _ _ _ _ (by simp; omega)).trans (by simpa using hcc))) rfl rfl rfl ?_
    refine doG_v (opV_move rfl) rfl rfl rfl ?_
    refine doG_vg (F := vI) (opV_call en22 rfl (fun w _ => mRound _ _ (by first | omega | assumption | (unfold In64; omega) | decide) w)) rfl rfl rfl ?_; intro r34 hr34
    refine doG_nil ?_
    refine tail_nil ?_
    refine doL_v (opV_assign rfl) rfl rfl rfl ?_
    refine doL_nil ?_
    refine post_then ?_
    refine doC_ret ?_
    refine post_rets (rs := [.tmp 4]) rfl (resC (resIs_tmp rfl) (resN)) (congrArg (vI) (?_ : _ = srcR L i k))
    exact hr34

theorem srcSigned {b : Nat} {sl : Value} {L : List Int} {i : Nat} (k : Int) (hk : 0 ≤ k ∧ k ≤ 1000000000) (w : World) (hs : Src w b sl L i) : Calls Try.prog 28 [.pointer (some ⟨b, 0, none⟩), .int .i64 k].toArray w (Rets (vI (srcS L i k)) (srcW w b sl L (i + 1))) := by
  refine calls_src (n := 12) hs Try.func28 rfl rfl rfl ?_
  refine doC_seq ?_
  refine doC_region ?_
  refine doL_v (opV_assign rfl) rfl rfl rfl ?_
  refine doL_nil ?_
  refine post_then ?_
  refine doC_seq ?_
  refine doC_region ?_
  refine doL_v (opV_move rfl) rfl rfl rfl ?_
  refine doL_v (opV_move rfl) rfl rfl rfl ?_
  refine doL_v (opV_mul rfl rfl (by first | exact i64_in ⟨by omega, by omega⟩ | rfl)) rfl rfl rfl ?_
  refine doL_v (opV_add rfl rfl (by first | exact i64_in ⟨by omega, by omega⟩ | rfl)) rfl rfl rfl ?_
  refine doL_srcA (F := vI) hs en30 rfl (fun w' h => srcNext _ (by first | omega | assumption | (unfold In64; omega) | decide) w' h) rfl rfl ?_; intro r9 hr9
  have br9 := srcR_b hr9 (by first | decide | omega)
  refine doL_v (opV_move rfl) rfl rfl rfl ?_
  refine doL_v (opV_sub rfl rfl (by first | exact i64_in ⟨by omega, by omega⟩ | rfl)) rfl rfl rfl ?_
  refine doL_v (opV_assign rfl) rfl rfl rfl ?_
  refine doL_nil ?_
  refine post_then ?_
  refine doC_ret ?_
  refine post_rets (rs := [.tmp 4]) rfl (resC (resIs_tmp rfl) (resN)) (congrArg (vI) (?_ : _ = srcS L i k))
  subst_vars; rfl

end Go.Proofs.Ytonampcmhhhffaa

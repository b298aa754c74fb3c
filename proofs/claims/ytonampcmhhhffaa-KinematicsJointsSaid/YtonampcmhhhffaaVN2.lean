/- What the second joint computes. No condition. -/
import Derived.Test.YtonampcmhhhffaaProg
import Derived.Test.YtonampcmhhhffaaVKin
import Derived.Test.YtonampcmhhhffaaVA1
import Derived.Test.YtonampcmhhhffaaVA2
import Derived.Test.YtonampcmhhhffaaVM1
import Derived.Test.YtonampcmhhhffaaVM2
import Derived.Test.YtonampcmhhhffaaVP1
import Derived.Test.YtonampcmhhhffaaVN1
namespace Go.Proofs.Ytonampcmhhhffaa
open Go.Sx
theorem en62 : Enters Try.prog 62 := enters_of Try.func62 (by kernel_rfl) (by kernel_rfl)
theorem en64 : Enters Try.prog 64 := enters_of Try.func64 (by kernel_rfl) (by kernel_rfl)
theorem en27 : Enters Try.prog 27 := enters_of Try.func27 (by kernel_rfl) (by kernel_rfl)
theorem en54 : Enters Try.prog 54 := enters_of Try.func54 (by kernel_rfl) (by kernel_rfl)
theorem en65 : Enters Try.prog 65 := enters_of Try.func65 (by kernel_rfl) (by kernel_rfl)
theorem la70 : layoutOf Try.prog 70 = some ([.string ByteArray.empty, .int .i64 0, .int .i64 0, .int .i64 0, .int .i64 0, .int .i64 0, .int .i64 0, .int .i64 0, .int .i64 0, .int .i64 0, .int .i64 0, .int .i64 0], [(0, 1), (1, 1), (2, 1), (3, 3), (6, 1), (7, 1), (8, 1), (9, 1), (10, 1), (11, 1)]) := by kernel_rfl
theorem en59 : Enters Try.prog 59 := enters_of Try.func59 (by kernel_rfl) (by kernel_rfl)
theorem en100 : Enters Try.prog 100 := enters_of Try.func100 (by kernel_rfl) (by kernel_rfl)
theorem ag34 : aggB Try.prog 34 = true := by kernel_rfl
theorem ce34 (a0 a1 a2 a3 a4 a5 : Int) : cellsB Try.prog 4 34 [.int .i64 a0, .int .i64 a1, .int .i64 a2, .int .i64 a3, .int .i64 a4, .int .i64 a5] = true := by kernel_rfl

theorem k4 {k : Int} (h : k = 4) : IntKind.i64.wrap (k - 4) = 0 := by rw [h]; rfl
theorem k5 {k : Int} (h : k = 5) : IntKind.i64.wrap (k - 4) = 1 := by rw [h]; rfl
theorem k6 {k : Int} (h : k = 6) : IntKind.i64.wrap (k - 4) = 2 := by rw [h]; rfl

theorem rJoint (a0 a1 : Int) (nm : ByteArray) (kind par ox oy oz jlo jhi we spd acc tq : Int) (w : World) : Calls Try.prog 60 [.agg #[.string nm, .int .i64 kind, .int .i64 par, .int .i64 ox, .int .i64 oy, .int .i64 oz, .int .i64 jlo, .int .i64 jhi, .int .i64 we, .int .i64 spd, .int .i64 acc, .int .i64 tq], .agg #[.int .i64 a0, .int .i64 a1]].toArray w (Rets (po (jPose kind ⟨ox, oy, oz⟩ (⟨a0, a1⟩ : Iv))) (w)) := by
  refine calls_of_doC (n := 36) Try.func60 rfl rfl rfl ?_
  refine doC_seq ?_
  refine doC_region ?_
  refine doL_box 2 rfl rfl rfl rfl ?_; intro b2
  refine doL_box 3 rfl rfl rfl rfl ?_; intro b3
  refine doL_alloc 4 ze63 rfl rfl rfl ?_; intro b4
  refine doL_nil ?_
  refine post_then ?_
  refine doC_seq ?_
  refine doC_region ?_
  refine doL_vg (F := po) (opV_call en62 rfl (fun w _ => qRest   w)) rfl rfl rfl ?_; intro r7 hr7
  refine doL_alloc 5 ze63 rfl rfl rfl ?_; intro b5
  refine doL_store 5 ty63 rfl rfl rfl rfl rfl rfl rfl rfl ?_
  refine doL_nil ?_
  refine post_then ?_
  refine doC_seq ?_
  refine doC_seq ?_
  refine doC_region ?_
  refine doL_v (opV_fieldAddr fa70_1 rfl) rfl rfl rfl ?_
  refine doL_v (opV_load1 2 ty3 rfl rfl rfl) rfl rfl rfl ?_
  refine doL_nil ?_
  refine post_then ?_
  refine doC_block ?_
  refine doC_seq ?_
  refine doC_seq ?_
  refine doC_region ?_
  refine doL_v (opV_eql rfl rfl) rfl rfl rfl ?_
  refine doL_v (opV_assign rfl) rfl rfl rfl ?_
  refine doL_nil ?_
  refine post_then ?_
  refine doC_cond rfl (fun hc10 => ?_) (fun hc10 => ?_)
  ·
    have e := of_decide_eq_true hc10
    refine doC_skip ?_
    refine post_then ?_
    refine doC_cond_t rfl (hc10) ?_
    refine doC_region ?_
    refine doL_v (opV_fieldAddr fa70_1 rfl) rfl rfl rfl ?_
    refine doL_v (opV_load1 2 ty3 rfl rfl rfl) rfl rfl rfl ?_
    refine doL_v (opV_sub rfl rfl (by first | exact i64_in ⟨by omega, by omega⟩ | rfl)) rfl rfl rfl ?_
    refine doL_v (opV_loadA 3 ty23 rfl rfl rfl) rfl rfl rfl ?_
    refine doL_vg (F := po) (opV_call en64 rfl (fun w _ => qTurn _ _ _  w)) rfl rfl rfl ?_; intro r18 hr18
    refine doL_store 5 ty63 rfl rfl rfl rfl rfl rfl rfl rfl ?_
    refine doL_nil ?_
    refine post_block_normal ?_
    refine post_then ?_
    refine doC_seq ?_
    refine doC_drawn 6 mo (by kernel_rfl) ?_
    simp only [List.take_succ_cons, List.take_zero, List.drop_succ_cons, List.drop_zero]
    refine doG_v (opV_fieldAddr fa70_3 rfl) rfl rfl rfl ?_
    refine doG_v (opV_loadA 2 ty38 rfl rfl rfl) rfl rfl rfl ?_
    refine doG_vg (F := v3) (opV_call en27 rfl (fun w _ => rPoint _ _ _  w)) rfl rfl rfl ?_; intro r32 hr32
    refine doG_vg (F := po) (opV_call en54 rfl (fun w _ => qShift _ _ _ _ _ _  w)) rfl rfl rfl ?_; intro r33 hr33
    refine doG_v (opV_loadA 5 ty63 rfl rfl rfl) rfl rfl rfl ?_
    refine doG_vg (F := po) (opV_call en65 rfl (fun w _ => qCompose _ _ _ _ _ _ _ _ _ _ _ _ _ _ _ _ _ _ _ _ _ _ _ _ _ _ _ _ _ _ _ _ _ _ _ _ _ _ _ _ _ _ _ _ _ _ _ _  w)) rfl rfl rfl ?_; intro r35 hr35
    refine doG_nil ?_
    refine tail_nil ?_
    refine doL_store 4 ty63 rfl rfl rfl rfl rfl rfl rfl rfl ?_
    refine doL_nil ?_
    refine post_then ?_
    refine doC_ret ?_
    refine post_rets (rs := [.cell 4 63]) rfl (resC (resIs_cell 4 rfl rfl ty63 rfl) (resN)) (congrArg (po) (?_ : ⟨⟨⟨⟨_, _⟩, ⟨_, _⟩, ⟨_, _⟩⟩, ⟨⟨_, _⟩, ⟨_, _⟩, ⟨_, _⟩⟩, ⟨⟨_, _⟩, ⟨_, _⟩, ⟨_, _⟩⟩⟩, ⟨⟨_, _⟩, ⟨_, _⟩, ⟨_, _⟩⟩⟩ = jPose kind ⟨ox, oy, oz⟩ (⟨a0, a1⟩ : Iv)))
    show r35 = _
    rw [show r35 = Po.mul r33 r18 from hr35, show r33 = Po.shift r32 from hr33, hr32, show r18 = Po.turn (kind - 1) ⟨a0, a1⟩ from hr18, ← jMot_t (k := kind) (a := ⟨a0, a1⟩) (by omega)]
    rfl
  ·
    have e := of_decide_eq_false hc10
    refine doC_seq ?_
    refine doC_region ?_
    refine doL_v (opV_eql rfl rfl) rfl rfl rfl ?_
    refine doL_v (opV_assign rfl) rfl rfl rfl ?_
    refine doL_nil ?_
    refine post_then ?_
    refine doC_cond rfl (fun hc10_2 => ?_) (fun hc10_2 => ?_)
    ·
      have e := of_decide_eq_true hc10_2
      refine doC_skip ?_
      refine post_then ?_
      refine doC_cond_t rfl (hc10_2) ?_
      refine doC_region ?_
      refine doL_v (opV_fieldAddr fa70_1 rfl) rfl rfl rfl ?_
      refine doL_v (opV_load1 2 ty3 rfl rfl rfl) rfl rfl rfl ?_
      refine doL_v (opV_sub rfl rfl (by first | exact i64_in ⟨by omega, by omega⟩ | rfl)) rfl rfl rfl ?_
      refine doL_v (opV_loadA 3 ty23 rfl rfl rfl) rfl rfl rfl ?_
      refine doL_vg (F := po) (opV_call en64 rfl (fun w _ => qTurn _ _ _  w)) rfl rfl rfl ?_; intro r18 hr18
      refine doL_store 5 ty63 rfl rfl rfl rfl rfl rfl rfl rfl ?_
      refine doL_nil ?_
      refine post_block_normal ?_
      refine post_then ?_
      refine doC_seq ?_
      refine doC_drawn 6 mo (by kernel_rfl) ?_
      simp only [List.take_succ_cons, List.take_zero, List.drop_succ_cons, List.drop_zero]
      refine doG_v (opV_fieldAddr fa70_3 rfl) rfl rfl rfl ?_
      refine doG_v (opV_loadA 2 ty38 rfl rfl rfl) rfl rfl rfl ?_
      refine doG_vg (F := v3) (opV_call en27 rfl (fun w _ => rPoint _ _ _  w)) rfl rfl rfl ?_; intro r32 hr32
      refine doG_vg (F := po) (opV_call en54 rfl (fun w _ => qShift _ _ _ _ _ _  w)) rfl rfl rfl ?_; intro r33 hr33
      refine doG_v (opV_loadA 5 ty63 rfl rfl rfl) rfl rfl rfl ?_
      refine doG_vg (F := po) (opV_call en65 rfl (fun w _ => qCompose _ _ _ _ _ _ _ _ _ _ _ _ _ _ _ _ _ _ _ _ _ _ _ _ _ _ _ _ _ _ _ _ _ _ _ _ _ _ _ _ _ _ _ _ _ _ _ _  w)) rfl rfl rfl ?_; intro r35 hr35
      refine doG_nil ?_
      refine tail_nil ?_
      refine doL_store 4 ty63 rfl rfl rfl rfl rfl rfl rfl rfl ?_
      refine doL_nil ?_
      refine post_then ?_
      refine doC_ret ?_
      refine post_rets (rs := [.cell 4 63]) rfl (resC (resIs_cell 4 rfl rfl ty63 rfl) (resN)) (congrArg (po) (?_ : ⟨⟨⟨⟨_, _⟩, ⟨_, _⟩, ⟨_, _⟩⟩, ⟨⟨_, _⟩, ⟨_, _⟩, ⟨_, _⟩⟩, ⟨⟨_, _⟩, ⟨_, _⟩, ⟨_, _⟩⟩⟩, ⟨⟨_, _⟩, ⟨_, _⟩, ⟨_, _⟩⟩⟩ = jPose kind ⟨ox, oy, oz⟩ (⟨a0, a1⟩ : Iv)))
      show r35 = _
      rw [show r35 = Po.mul r33 r18 from hr35, show r33 = Po.shift r32 from hr33, hr32, show r18 = Po.turn (kind - 1) ⟨a0, a1⟩ from hr18, ← jMot_t (k := kind) (a := ⟨a0, a1⟩) (by omega)]
      rfl
    ·
      have e := of_decide_eq_false hc10_2
      refine doC_region ?_
      refine doL_v (opV_eql rfl rfl) rfl rfl rfl ?_
      refine doL_v (opV_assign rfl) rfl rfl rfl ?_
      refine doL_nil ?_
      refine post_then ?_
      refine doC_cond rfl (fun hc10_3 => ?_) (fun hc10_3 => ?_)
      ·
        have e := of_decide_eq_true hc10_3
        refine doC_region ?_
        refine doL_v (opV_fieldAddr fa70_1 rfl) rfl rfl rfl ?_
        refine doL_v (opV_load1 2 ty3 rfl rfl rfl) rfl rfl rfl ?_
        refine doL_v (opV_sub rfl rfl (by first | exact i64_in ⟨by omega, by omega⟩ | rfl)) rfl rfl rfl ?_
        refine doL_v (opV_loadA 3 ty23 rfl rfl rfl) rfl rfl rfl ?_
        refine doL_vg (F := po) (opV_call en64 rfl (fun w _ => qTurn _ _ _  w)) rfl rfl rfl ?_; intro r18 hr18
        refine doL_store 5 ty63 rfl rfl rfl rfl rfl rfl rfl rfl ?_
        refine doL_nil ?_
        refine post_block_normal ?_
        refine post_then ?_
        refine doC_seq ?_
        refine doC_drawn 6 mo (by kernel_rfl) ?_
        simp only [List.take_succ_cons, List.take_zero, List.drop_succ_cons, List.drop_zero]
        refine doG_v (opV_fieldAddr fa70_3 rfl) rfl rfl rfl ?_
        refine doG_v (opV_loadA 2 ty38 rfl rfl rfl) rfl rfl rfl ?_
        refine doG_vg (F := v3) (opV_call en27 rfl (fun w _ => rPoint _ _ _  w)) rfl rfl rfl ?_; intro r32 hr32
        refine doG_vg (F := po) (opV_call en54 rfl (fun w _ => qShift _ _ _ _ _ _  w)) rfl rfl rfl ?_; intro r33 hr33
        refine doG_v (opV_loadA 5 ty63 rfl rfl rfl) rfl rfl rfl ?_
        refine doG_vg (F := po) (opV_call en65 rfl (fun w _ => qCompose _ _ _ _ _ _ _ _ _ _ _ _ _ _ _ _ _ _ _ _ _ _ _ _ _ _ _ _ _ _ _ _ _ _ _ _ _ _ _ _ _ _ _ _ _ _ _ _  w)) rfl rfl rfl ?_; intro r35 hr35
        refine doG_nil ?_
        refine tail_nil ?_
        refine doL_store 4 ty63 rfl rfl rfl rfl rfl rfl rfl rfl ?_
        refine doL_nil ?_
        refine post_then ?_
        refine doC_ret ?_
        refine post_rets (rs := [.cell 4 63]) rfl (resC (resIs_cell 4 rfl rfl ty63 rfl) (resN)) (congrArg (po) (?_ : ⟨⟨⟨⟨_, _⟩, ⟨_, _⟩, ⟨_, _⟩⟩, ⟨⟨_, _⟩, ⟨_, _⟩, ⟨_, _⟩⟩, ⟨⟨_, _⟩, ⟨_, _⟩, ⟨_, _⟩⟩⟩, ⟨⟨_, _⟩, ⟨_, _⟩, ⟨_, _⟩⟩⟩ = jPose kind ⟨ox, oy, oz⟩ (⟨a0, a1⟩ : Iv)))
        show r35 = _
        rw [show r35 = Po.mul r33 r18 from hr35, show r33 = Po.shift r32 from hr33, hr32, show r18 = Po.turn (kind - 1) ⟨a0, a1⟩ from hr18, ← jMot_t (k := kind) (a := ⟨a0, a1⟩) (by omega)]
        rfl
      ·
        have e := of_decide_eq_false hc10_3
        refine doC_seq ?_
        refine doC_seq ?_
        refine doC_region ?_
        refine doL_v (opV_eql rfl rfl) rfl rfl rfl ?_
        refine doL_v (opV_assign rfl) rfl rfl rfl ?_
        refine doL_nil ?_
        refine post_then ?_
        refine doC_cond rfl (fun hc19 => ?_) (fun hc19 => ?_)
        ·
          have e := of_decide_eq_true hc19
          refine doC_skip ?_
          refine post_then ?_
          refine doC_cond_t rfl (hc19) ?_
          refine doC_seq ?_
          refine doC_region ?_
          refine doL_alloc 6 ze34 rfl rfl rfl ?_; intro b6
          refine doL_nil ?_
          refine post_then ?_
          refine doC_seq ?_
          refine doC_region ?_
          refine doL_v (opV_fieldAddr fa70_1 rfl) rfl rfl rfl ?_
          refine doL_v (opV_load1 2 ty3 rfl rfl rfl) rfl rfl rfl ?_
          refine doL_v (opV_sub rfl rfl (by first | exact k4 e | exact k5 e | exact k6 e)) rfl rfl rfl ?_
          refine doL_v (opV_loadA 3 ty23 rfl rfl rfl) rfl rfl rfl ?_
          refine doL_v (opV_indexAddr ar34 rfl rfl (by first | decide | omega) (by first | decide | omega)) rfl rfl rfl ?_
          refine doL_store 6 ty23 rfl rfl rfl rfl rfl rfl rfl rfl ?_
          refine doL_nil ?_
          refine post_then ?_
          refine doC_region ?_
          refine doL_v (opV_loadA 6 ty34 rfl rfl rfl) rfl rfl rfl ?_
          refine doL_vg (F := po) (opV_call en54 rfl (fun w _ => qShift _ _ _ _ _ _  w)) rfl rfl rfl ?_; intro r29 hr29
          refine doL_store 5 ty63 rfl rfl rfl rfl rfl rfl rfl rfl ?_
          refine doL_nil ?_
          refine post_block_normal ?_
          refine post_then ?_
          refine doC_seq ?_
          refine doC_drawn 6 mo (by kernel_rfl) ?_
          simp only [List.take_succ_cons, List.take_zero, List.drop_succ_cons, List.drop_zero]
          refine doG_v (opV_fieldAddr fa70_3 rfl) rfl rfl rfl ?_
          refine doG_v (opV_loadA 2 ty38 rfl rfl rfl) rfl rfl rfl ?_
          refine doG_vg (F := v3) (opV_call en27 rfl (fun w _ => rPoint _ _ _  w)) rfl rfl rfl ?_; intro r32 hr32
          refine doG_vg (F := po) (opV_call en54 rfl (fun w _ => qShift _ _ _ _ _ _  w)) rfl rfl rfl ?_; intro r33 hr33
          refine doG_v (opV_loadA 5 ty63 rfl rfl rfl) rfl rfl rfl ?_
          refine doG_vg (F := po) (opV_call en65 rfl (fun w _ => qCompose _ _ _ _ _ _ _ _ _ _ _ _ _ _ _ _ _ _ _ _ _ _ _ _ _ _ _ _ _ _ _ _ _ _ _ _ _ _ _ _ _ _ _ _ _ _ _ _  w)) rfl rfl rfl ?_; intro r35 hr35
          refine doG_nil ?_
          refine tail_nil ?_
          refine doL_store 4 ty63 rfl rfl rfl rfl rfl rfl rfl rfl ?_
          refine doL_nil ?_
          refine post_then ?_
          refine doC_ret ?_
          refine post_rets (rs := [.cell 4 63]) rfl (resC (resIs_cell 4 rfl rfl ty63 rfl) (resN)) (congrArg (po) (?_ : ⟨⟨⟨⟨_, _⟩, ⟨_, _⟩, ⟨_, _⟩⟩, ⟨⟨_, _⟩, ⟨_, _⟩, ⟨_, _⟩⟩, ⟨⟨_, _⟩, ⟨_, _⟩, ⟨_, _⟩⟩⟩, ⟨⟨_, _⟩, ⟨_, _⟩, ⟨_, _⟩⟩⟩ = jPose kind ⟨ox, oy, oz⟩ (⟨a0, a1⟩ : Iv)))
          show r35 = _
          rw [show r35 = Po.mul r33 r29 from hr35, show r33 = Po.shift r32 from hr33, hr32, show r29 = Po.shift (V3.put (kind - 4) ⟨a0, a1⟩) from hr29.trans (by rw [e]; rfl), ← jMot_s (k := kind) (a := ⟨a0, a1⟩) (by omega)]
          rfl
        ·
          have e := of_decide_eq_false hc19
          refine doC_seq ?_
          refine doC_region ?_
          refine doL_v (opV_eql rfl rfl) rfl rfl rfl ?_
          refine doL_v (opV_assign rfl) rfl rfl rfl ?_
          refine doL_nil ?_
          refine post_then ?_
          refine doC_cond rfl (fun hc19_2 => ?_) (fun hc19_2 => ?_)
          ·
            have e := of_decide_eq_true hc19_2
            refine doC_skip ?_
            refine post_then ?_
            refine doC_cond_t rfl (hc19_2) ?_
            refine doC_seq ?_
            refine doC_region ?_
            refine doL_alloc 6 ze34 rfl rfl rfl ?_; intro b6
            refine doL_nil ?_
            refine post_then ?_
            refine doC_seq ?_
            refine doC_region ?_
            refine doL_v (opV_fieldAddr fa70_1 rfl) rfl rfl rfl ?_
            refine doL_v (opV_load1 2 ty3 rfl rfl rfl) rfl rfl rfl ?_
            refine doL_v (opV_sub rfl rfl (by first | exact k4 e | exact k5 e | exact k6 e)) rfl rfl rfl ?_
            refine doL_v (opV_loadA 3 ty23 rfl rfl rfl) rfl rfl rfl ?_
            refine doL_v (opV_indexAddr ar34 rfl rfl (by first | decide | omega) (by first | decide | omega)) rfl rfl rfl ?_
            refine doL_store 6 ty23 rfl rfl rfl rfl rfl rfl rfl rfl ?_
            refine doL_nil ?_
            refine post_then ?_
            refine doC_region ?_
            refine doL_v (opV_loadA 6 ty34 rfl rfl rfl) rfl rfl rfl ?_
            refine doL_vg (F := po) (opV_call en54 rfl (fun w _ => qShift _ _ _ _ _ _  w)) rfl rfl rfl ?_; intro r29 hr29
            refine doL_store 5 ty63 rfl rfl rfl rfl rfl rfl rfl rfl ?_
            refine doL_nil ?_
            refine post_block_normal ?_
            refine post_then ?_
            refine doC_seq ?_
            refine doC_drawn 6 mo (by kernel_rfl) ?_
            simp only [List.take_succ_cons, List.take_zero, List.drop_succ_cons, List.drop_zero]
            refine doG_v (opV_fieldAddr fa70_3 rfl) rfl rfl rfl ?_
            refine doG_v (opV_loadA 2 ty38 rfl rfl rfl) rfl rfl rfl ?_
            refine doG_vg (F := v3) (opV_call en27 rfl (fun w _ => rPoint _ _ _  w)) rfl rfl rfl ?_; intro r32 hr32
            refine doG_vg (F := po) (opV_call en54 rfl (fun w _ => qShift _ _ _ _ _ _  w)) rfl rfl rfl ?_; intro r33 hr33
            refine doG_v (opV_loadA 5 ty63 rfl rfl rfl) rfl rfl rfl ?_
            refine doG_vg (F := po) (opV_call en65 rfl (fun w _ => qCompose _ _ _ _ _ _ _ _ _ _ _ _ _ _ _ _ _ _ _ _ _ _ _ _ _ _ _ _ _ _ _ _ _ _ _ _ _ _ _ _ _ _ _ _ _ _ _ _  w)) rfl rfl rfl ?_; intro r35 hr35
            refine doG_nil ?_
            refine tail_nil ?_
            refine doL_store 4 ty63 rfl rfl rfl rfl rfl rfl rfl rfl ?_
            refine doL_nil ?_
            refine post_then ?_
            refine doC_ret ?_
            refine post_rets (rs := [.cell 4 63]) rfl (resC (resIs_cell 4 rfl rfl ty63 rfl) (resN)) (congrArg (po) (?_ : ⟨⟨⟨⟨_, _⟩, ⟨_, _⟩, ⟨_, _⟩⟩, ⟨⟨_, _⟩, ⟨_, _⟩, ⟨_, _⟩⟩, ⟨⟨_, _⟩, ⟨_, _⟩, ⟨_, _⟩⟩⟩, ⟨⟨_, _⟩, ⟨_, _⟩, ⟨_, _⟩⟩⟩ = jPose kind ⟨ox, oy, oz⟩ (⟨a0, a1⟩ : Iv)))
            show r35 = _
            rw [show r35 = Po.mul r33 r29 from hr35, show r33 = Po.shift r32 from hr33, hr32, show r29 = Po.shift (V3.put (kind - 4) ⟨a0, a1⟩) from hr29.trans (by rw [e]; rfl), ← jMot_s (k := kind) (a := ⟨a0, a1⟩) (by omega)]
            rfl
          ·
            have e := of_decide_eq_false hc19_2
            refine doC_region ?_
            refine doL_v (opV_eql rfl rfl) rfl rfl rfl ?_
            refine doL_v (opV_assign rfl) rfl rfl rfl ?_
            refine doL_nil ?_
            refine post_then ?_
            refine doC_cond rfl (fun hc19_3 => ?_) (fun hc19_3 => ?_)
            ·
              have e := of_decide_eq_true hc19_3
              refine doC_seq ?_
              refine doC_region ?_
              refine doL_alloc 6 ze34 rfl rfl rfl ?_; intro b6
              refine doL_nil ?_
              refine post_then ?_
              refine doC_seq ?_
              refine doC_region ?_
              refine doL_v (opV_fieldAddr fa70_1 rfl) rfl rfl rfl ?_
              refine doL_v (opV_load1 2 ty3 rfl rfl rfl) rfl rfl rfl ?_
              refine doL_v (opV_sub rfl rfl (by first | exact k4 e | exact k5 e | exact k6 e)) rfl rfl rfl ?_
              refine doL_v (opV_loadA 3 ty23 rfl rfl rfl) rfl rfl rfl ?_
              refine doL_v (opV_indexAddr ar34 rfl rfl (by first | decide | omega) (by first | decide | omega)) rfl rfl rfl ?_
              refine doL_store 6 ty23 rfl rfl rfl rfl rfl rfl rfl rfl ?_
              refine doL_nil ?_
              refine post_then ?_
              refine doC_region ?_
              refine doL_v (opV_loadA 6 ty34 rfl rfl rfl) rfl rfl rfl ?_
              refine doL_vg (F := po) (opV_call en54 rfl (fun w _ => qShift _ _ _ _ _ _  w)) rfl rfl rfl ?_; intro r29 hr29
              refine doL_store 5 ty63 rfl rfl rfl rfl rfl rfl rfl rfl ?_
              refine doL_nil ?_
              refine post_block_normal ?_
              refine post_then ?_
              refine doC_seq ?_
              refine doC_drawn 6 mo (by kernel_rfl) ?_
              simp only [List.take_succ_cons, List.take_zero, List.drop_succ_cons, List.drop_zero]
              refine doG_v (opV_fieldAddr fa70_3 rfl) rfl rfl rfl ?_
              refine doG_v (opV_loadA 2 ty38 rfl rfl rfl) rfl rfl rfl ?_
              refine doG_vg (F := v3) (opV_call en27 rfl (fun w _ => rPoint _ _ _  w)) rfl rfl rfl ?_; intro r32 hr32
              refine doG_vg (F := po) (opV_call en54 rfl (fun w _ => qShift _ _ _ _ _ _  w)) rfl rfl rfl ?_; intro r33 hr33
              refine doG_v (opV_loadA 5 ty63 rfl rfl rfl) rfl rfl rfl ?_
              refine doG_vg (F := po) (opV_call en65 rfl (fun w _ => qCompose _ _ _ _ _ _ _ _ _ _ _ _ _ _ _ _ _ _ _ _ _ _ _ _ _ _ _ _ _ _ _ _ _ _ _ _ _ _ _ _ _ _ _ _ _ _ _ _  w)) rfl rfl rfl ?_; intro r35 hr35
              refine doG_nil ?_
              refine tail_nil ?_
              refine doL_store 4 ty63 rfl rfl rfl rfl rfl rfl rfl rfl ?_
              refine doL_nil ?_
              refine post_then ?_
              refine doC_ret ?_
              refine post_rets (rs := [.cell 4 63]) rfl (resC (resIs_cell 4 rfl rfl ty63 rfl) (resN)) (congrArg (po) (?_ : ⟨⟨⟨⟨_, _⟩, ⟨_, _⟩, ⟨_, _⟩⟩, ⟨⟨_, _⟩, ⟨_, _⟩, ⟨_, _⟩⟩, ⟨⟨_, _⟩, ⟨_, _⟩, ⟨_, _⟩⟩⟩, ⟨⟨_, _⟩, ⟨_, _⟩, ⟨_, _⟩⟩⟩ = jPose kind ⟨ox, oy, oz⟩ (⟨a0, a1⟩ : Iv)))
              show r35 = _
              rw [show r35 = Po.mul r33 r29 from hr35, show r33 = Po.shift r32 from hr33, hr32, show r29 = Po.shift (V3.put (kind - 4) ⟨a0, a1⟩) from hr29.trans (by rw [e]; rfl), ← jMot_s (k := kind) (a := ⟨a0, a1⟩) (by omega)]
              rfl
            ·
              have e := of_decide_eq_false hc19_3
              refine doC_skip ?_
              refine post_block_normal ?_
              refine post_then ?_
              refine doC_seq ?_
              refine doC_drawn 6 mo (by kernel_rfl) ?_
              simp only [List.take_succ_cons, List.take_zero, List.drop_succ_cons, List.drop_zero]
              refine doG_v (opV_fieldAddr fa70_3 rfl) rfl rfl rfl ?_
              refine doG_v (opV_loadA 2 ty38 rfl rfl rfl) rfl rfl rfl ?_
              refine doG_vg (F := v3) (opV_call en27 rfl (fun w _ => rPoint _ _ _  w)) rfl rfl rfl ?_; intro r32 hr32
              refine doG_vg (F := po) (opV_call en54 rfl (fun w _ => qShift _ _ _ _ _ _  w)) rfl rfl rfl ?_; intro r33 hr33
              refine doG_v (opV_loadA 5 ty63 rfl rfl rfl) rfl rfl rfl ?_
              refine doG_vg (F := po) (opV_call en65 rfl (fun w _ => qCompose _ _ _ _ _ _ _ _ _ _ _ _ _ _ _ _ _ _ _ _ _ _ _ _ _ _ _ _ _ _ _ _ _ _ _ _ _ _ _ _ _ _ _ _ _ _ _ _  w)) rfl rfl rfl ?_; intro r35 hr35
              refine doG_nil ?_
              refine tail_nil ?_
              refine doL_store 4 ty63 rfl rfl rfl rfl rfl rfl rfl rfl ?_
              refine doL_nil ?_
              refine post_then ?_
              refine doC_ret ?_
              refine post_rets (rs := [.cell 4 63]) rfl (resC (resIs_cell 4 rfl rfl ty63 rfl) (resN)) (congrArg (po) (?_ : ⟨⟨⟨⟨_, _⟩, ⟨_, _⟩, ⟨_, _⟩⟩, ⟨⟨_, _⟩, ⟨_, _⟩, ⟨_, _⟩⟩, ⟨⟨_, _⟩, ⟨_, _⟩, ⟨_, _⟩⟩⟩, ⟨⟨_, _⟩, ⟨_, _⟩, ⟨_, _⟩⟩⟩ = jPose kind ⟨ox, oy, oz⟩ (⟨a0, a1⟩ : Iv)))
              show r35 = _
              rw [show r35 = Po.mul r33 r7 from hr35, show r33 = Po.shift r32 from hr33, hr32, show r7 = Po.rest from hr7, ← jMot_r (k := kind) (a := ⟨a0, a1⟩) (by omega) (by omega)]
              rfl

theorem awake11_val : Po.app (jPose 3 ⟨9, 0, 0⟩ (Iv.of 16384)) (V3.of ⟨5, 0, 0⟩) = V3.of ⟨9, 5, 0⟩ := by kernel_rfl

theorem awake11  (w : World) : Calls Try.prog 58 [].toArray w (Rets (vB (true)) (w)) := by
  refine calls_of_doC (n := 13) Try.func58 rfl rfl rfl ?_
  refine doC_seq ?_
  refine doC_region ?_
  refine doL_v (opV_assign rfl) rfl rfl rfl ?_
  refine doL_nil ?_
  refine post_then ?_
  refine doC_seq ?_
  refine doC_region ?_
  refine doL_v (opV_build la38 rfl rfl) rfl rfl rfl ?_
  refine doL_v (opV_build la70 rfl rfl) rfl rfl rfl ?_
  refine doL_vg (F := iv) (opV_call en31 rfl (fun w _ => rOf _  w)) rfl rfl rfl ?_; intro r4 hr4
  refine doL_vg (F := po) (opV_call en59 rfl (fun w _ => kJoint _ _ _ _ _ _ _ _ _ _ _ _ _ _ w)) rfl rfl rfl ?_; intro r5 hr5
  refine doL_alloc 1 ze63 rfl rfl rfl ?_; intro b1
  refine doL_store 1 ty63 rfl rfl rfl rfl rfl rfl rfl rfl ?_
  refine doL_nil ?_
  refine post_then ?_
  refine doC_seq ?_
  refine doC_drawn 7 mo (by kernel_rfl) ?_
  simp only [List.take_succ_cons, List.take_zero, List.drop_succ_cons, List.drop_zero]
  refine doG_v (opV_loadA 1 ty63 rfl rfl rfl) rfl rfl rfl ?_
  refine doG_v (opV_build la38 rfl rfl) rfl rfl rfl ?_
  refine doG_vg (F := v3) (opV_call en27 rfl (fun w _ => rPoint _ _ _  w)) rfl rfl rfl ?_; intro r8 hr8
  refine doG_vg (F := v3) (opV_call en100 rfl (fun w _ => qApply _ _ _ _ _ _ _ _ _ _ _ _ _ _ _ _ _ _ _ _ _ _ _ _ _ _ _ _ _ _  w)) rfl rfl rfl ?_; intro r9 hr9
  refine doG_v (opV_build la38 rfl rfl) rfl rfl rfl ?_
  refine doG_vg (F := v3) (opV_call en27 rfl (fun w _ => rPoint _ _ _  w)) rfl rfl rfl ?_; intro r11 hr11
  refine doG_v (opV_eqA 4 rfl ag34 rfl rfl (ce34 _ _ _ _ _ _) (ce34 _ _ _ _ _ _)) rfl rfl rfl ?_
  refine doG_nil ?_
  refine tail_nil ?_
  refine doL_v (opV_assign rfl) rfl rfl rfl ?_
  refine doL_nil ?_
  refine post_then ?_
  refine doC_ret ?_
  refine post_rets (rs := [.tmp 0]) rfl (resC (resIs_tmp rfl) (resN)) (congrArg (vB) (?_ : _ = true))
  show eqCells _ _ = true
  have e9 : r9 = Po.app r5 r8 := hr9
  exact eq_v3 (by rw [e9, show r5 = jPose 3 ⟨9, 0, 0⟩ r4 from hr5, hr4, hr8, hr11]; exact awake11_val)

end Go.Proofs.Ytonampcmhhhffaa

/- The walks of the laws of chapter 5. No condition. -/
import Derived.Test.YtonampcmhhhffaaProg
import Derived.Test.YtonampcmhhhffaaPoseLaw2
import Derived.Test.YtonampcmhhhffaaSxLate
import Derived.Test.YtonampcmhhhffaaA1
import Derived.Test.YtonampcmhhhffaaA2
import Derived.Test.YtonampcmhhhffaaM1
import Derived.Test.YtonampcmhhhffaaM2
import Derived.Test.YtonampcmhhhffaaSrc
import Derived.Test.YtonampcmhhhffaaP1
import Derived.Test.YtonampcmhhhffaaP2
namespace Go.Proofs.Ytonampcmhhhffaa
open Go.Sx
theorem en63 : Enters Try.prog 63 := enters_of Try.func63 (by kernel_rfl) (by kernel_rfl)
theorem en51 : Enters Try.prog 51 := enters_of Try.func51 (by kernel_rfl) (by kernel_rfl)
theorem en50 : Enters Try.prog 50 := enters_of Try.func50 (by kernel_rfl) (by kernel_rfl)
theorem ag34 : aggB Try.prog 34 = true := by kernel_rfl
theorem ce34 (a0 a1 a2 a3 a4 a5 : Int) : cellsB Try.prog 4 34 [.int .i64 a0, .int .i64 a1, .int .i64 a2, .int .i64 a3, .int .i64 a4, .int .i64 a5] = true := by kernel_rfl
theorem en67 : Enters Try.prog 67 := enters_of Try.func67 (by kernel_rfl) (by kernel_rfl)
theorem en100 : Enters Try.prog 100 := enters_of Try.func100 (by kernel_rfl) (by kernel_rfl)
theorem en68 : Enters Try.prog 68 := enters_of Try.func68 (by kernel_rfl) (by kernel_rfl)
theorem en103 : Enters Try.prog 103 := enters_of Try.func103 (by kernel_rfl) (by kernel_rfl)
theorem ag63 : aggB Try.prog 63 = true := by kernel_rfl
theorem ce63 (a0 a1 a2 a3 a4 a5 a6 a7 a8 a9 a10 a11 a12 a13 a14 a15 a16 a17 a18 a19 a20 a21 a22 a23 : Int) : cellsB Try.prog 5 63 [.int .i64 a0, .int .i64 a1, .int .i64 a2, .int .i64 a3, .int .i64 a4, .int .i64 a5, .int .i64 a6, .int .i64 a7, .int .i64 a8, .int .i64 a9, .int .i64 a10, .int .i64 a11, .int .i64 a12, .int .i64 a13, .int .i64 a14, .int .i64 a15, .int .i64 a16, .int .i64 a17, .int .i64 a18, .int .i64 a19, .int .i64 a20, .int .i64 a21, .int .i64 a22, .int .i64 a23] = true := by kernel_rfl
theorem en104 : Enters Try.prog 104 := enters_of Try.func104 (by kernel_rfl) (by kernel_rfl)
theorem en26 : Enters Try.prog 26 := enters_of Try.func26 (by kernel_rfl) (by kernel_rfl)
theorem en49 : Enters Try.prog 49 := enters_of Try.func49 (by kernel_rfl) (by kernel_rfl)
theorem en52 : Enters Try.prog 52 := enters_of Try.func52 (by kernel_rfl) (by kernel_rfl)
theorem en61 : Enters Try.prog 61 := enters_of Try.func61 (by kernel_rfl) (by kernel_rfl)
theorem en62 : Enters Try.prog 62 := enters_of Try.func62 (by kernel_rfl) (by kernel_rfl)
theorem en66 : Enters Try.prog 66 := enters_of Try.func66 (by kernel_rfl) (by kernel_rfl)
theorem ty38 : tyB Try.prog 38 true 3 = true := by kernel_rfl
theorem en32 : Enters Try.prog 32 := enters_of Try.func32 (by kernel_rfl) (by kernel_rfl)

theorem eq_po {pa pb : Po} (h : pa = pb) : eqCells [.int .i64 pa.r.x.x.lo, .int .i64 pa.r.x.x.hi, .int .i64 pa.r.x.y.lo, .int .i64 pa.r.x.y.hi, .int .i64 pa.r.x.z.lo, .int .i64 pa.r.x.z.hi, .int .i64 pa.r.y.x.lo, .int .i64 pa.r.y.x.hi, .int .i64 pa.r.y.y.lo, .int .i64 pa.r.y.y.hi, .int .i64 pa.r.y.z.lo, .int .i64 pa.r.y.z.hi, .int .i64 pa.r.z.x.lo, .int .i64 pa.r.z.x.hi, .int .i64 pa.r.z.y.lo, .int .i64 pa.r.z.y.hi, .int .i64 pa.r.z.z.lo, .int .i64 pa.r.z.z.hi, .int .i64 pa.t.x.lo, .int .i64 pa.t.x.hi, .int .i64 pa.t.y.lo, .int .i64 pa.t.y.hi, .int .i64 pa.t.z.lo, .int .i64 pa.t.z.hi] [.int .i64 pb.r.x.x.lo, .int .i64 pb.r.x.x.hi, .int .i64 pb.r.x.y.lo, .int .i64 pb.r.x.y.hi, .int .i64 pb.r.x.z.lo, .int .i64 pb.r.x.z.hi, .int .i64 pb.r.y.x.lo, .int .i64 pb.r.y.x.hi, .int .i64 pb.r.y.y.lo, .int .i64 pb.r.y.y.hi, .int .i64 pb.r.y.z.lo, .int .i64 pb.r.y.z.hi, .int .i64 pb.r.z.x.lo, .int .i64 pb.r.z.x.hi, .int .i64 pb.r.z.y.lo, .int .i64 pb.r.z.y.hi, .int .i64 pb.r.z.z.lo, .int .i64 pb.r.z.z.hi, .int .i64 pb.t.x.lo, .int .i64 pb.t.x.hi, .int .i64 pb.t.y.lo, .int .i64 pb.t.y.hi, .int .i64 pb.t.z.lo, .int .i64 pb.t.z.hi] = true := by
  subst h; simp [eqCells, eqCell]

theorem eq_bb {p q : Bool} (h : p = q) : (p == q) = true := by subst h; simp

theorem meet_snd (a b : Iv) : (Iv.meet a b).2 = Iv.meetB a b := by
  unfold Iv.meet; cases Iv.meetB a b <;> rfl

theorem awake5_val : Po.app (Po.mul (Po.shift (V3.of ⟨10, 0, 0⟩)) (Po.turn 2 (Iv.of 16384))) (V3.of ⟨5, 0, 0⟩) = V3.of ⟨10, 5, 0⟩ := by kernel_rfl
theorem awake5_in : Po.within (Po.mul (Po.shift (V3.of ⟨10, 0, 0⟩)) (Po.turn 2 (Iv.of 16384))) (Po.mul (Po.shift (V3.of ⟨10, 0, 0⟩)) (Po.turn 2 (Iv.of 16384))) = true := by kernel_rfl

theorem awake5  (w : World) : Calls Try.prog 52 [].toArray w (Rets (vB (true)) (w)) := by
  refine calls_of_doC (n := 20) Try.func52 rfl rfl rfl ?_
  refine doC_seq ?_
  refine doC_region ?_
  refine doL_v (opV_assign rfl) rfl rfl rfl ?_
  refine doL_nil ?_
  refine post_then ?_
  refine doC_seq ?_
  refine doC_region ?_
  refine doL_v (opV_build la38 rfl rfl) rfl rfl rfl ?_
  refine doL_vg (F := v3) (opV_call en27 rfl (fun w _ => rPoint _ _ _  w)) rfl rfl rfl ?_; intro r3 hr3
  refine doL_vg (F := po) (opV_call en53 rfl (fun w _ => pShift _ _ _ _ _ _  w)) rfl rfl rfl ?_; intro r4 hr4
  refine doL_vg (F := iv) (opV_call en31 rfl (fun w _ => rOf _  w)) rfl rfl rfl ?_; intro r5 hr5
  refine doL_vg (F := po) (opV_call en63 rfl (fun w _ => pTurn _ _ _  w)) rfl rfl rfl ?_; intro r6 hr6
  refine doL_vg (F := po) (opV_call en51 rfl (fun w _ => pCompose _ _ _ _ _ _ _ _ _ _ _ _ _ _ _ _ _ _ _ _ _ _ _ _ _ _ _ _ _ _ _ _ _ _ _ _ _ _ _ _ _ _ _ _ _ _ _ _  w)) rfl rfl rfl ?_; intro r7 hr7
  refine doL_alloc 1 ze63 rfl rfl rfl ?_; intro b1
  refine doL_store 1 ty63 rfl rfl rfl rfl rfl rfl rfl rfl ?_
  refine doL_nil ?_
  refine post_then ?_
  refine doC_seq ?_
  refine doC_drawn 12 mo (by kernel_rfl) ?_
  simp only [List.take_succ_cons, List.take_zero, List.drop_succ_cons, List.drop_zero]
  refine doG_v (opV_loadA 1 ty63 rfl rfl rfl) rfl rfl rfl ?_
  refine doG_v (opV_build la38 rfl rfl) rfl rfl rfl ?_
  refine doG_vg (F := v3) (opV_call en27 rfl (fun w _ => rPoint _ _ _  w)) rfl rfl rfl ?_; intro r10 hr10
  refine doG_vg (F := v3) (opV_call en50 rfl (fun w _ => pApply _ _ _ _ _ _ _ _ _ _ _ _ _ _ _ _ _ _ _ _ _ _ _ _ _ _ _ _ _ _  w)) rfl rfl rfl ?_; intro r11 hr11
  refine doG_v (opV_build la38 rfl rfl) rfl rfl rfl ?_
  refine doG_vg (F := v3) (opV_call en27 rfl (fun w _ => rPoint _ _ _  w)) rfl rfl rfl ?_; intro r13 hr13
  refine doG_vg (F := vB) (opV_eqA 4 rfl ag34 rfl rfl (ce34 _ _ _ _ _ _) (ce34 _ _ _ _ _ _)) rfl rfl rfl ?_; intro r14 hr14
  obtain rfl : r14 = true := hr14.trans (eq_v3 (by have e4 : r4 = Po.shift r3 := hr4; have e6 : r6 = Po.turn 2 r5 := hr6; have e7 : r7 = Po.mul r4 r6 := hr7; have e11 : r11 = Po.app r7 r10 := hr11; rw [e11, hr10, hr13, e7, e4, e6, hr3, hr5]; exact awake5_val))
  refine doG_v (opV_move rfl) rfl rfl rfl ?_
  refine doG_v (opV_loadA 1 ty63 rfl rfl rfl) rfl rfl rfl ?_
  refine doG_v (opV_loadA 1 ty63 rfl rfl rfl) rfl rfl rfl ?_
  refine doG_vg (F := vB) (opV_call en67 rfl (fun w _ => pWithin _ _ _ _ _ _ _ _ _ _ _ _ _ _ _ _ _ _ _ _ _ _ _ _ _ _ _ _ _ _ _ _ _ _ _ _ _ _ _ _ _ _ _ _ _ _ _ _  w)) rfl rfl rfl ?_; intro r18 hr18
  refine doG_v (opV_pick_t rfl rfl rfl rfl) rfl rfl rfl ?_
  refine doG_nil ?_
  refine tail_nil ?_
  refine doL_v (opV_assign rfl) rfl rfl rfl ?_
  refine doL_nil ?_
  refine post_then ?_
  refine doC_ret ?_
  refine post_rets (rs := [.tmp 0]) rfl (resC (resIs_tmp rfl) (resN)) (congrArg (vB) (?_ : _ = true))
  have e4 : r4 = Po.shift r3 := hr4; have e6 : r6 = Po.turn 2 r5 := hr6; have e7 : r7 = Po.mul r4 r6 := hr7; rw [show r18 = Po.within r7 r7 from hr18, e7, e4, e6, hr3, hr5]; exact awake5_in

theorem wPApplies0 (pa0 pa1 pa2 pa3 pa4 pa5 pa6 pa7 pa8 pa9 pa10 pa11 pa12 pa13 pa14 pa15 pa16 pa17 pa18 pa19 pa20 pa21 pa22 pa23 : Int) (qa0 qa1 qa2 qa3 qa4 qa5 qa6 qa7 qa8 qa9 qa10 qa11 qa12 qa13 qa14 qa15 qa16 qa17 qa18 qa19 qa20 qa21 qa22 qa23 : Int) (va0 va1 va2 va3 va4 va5 : Int) (w : World) : Calls Try.prog 66 [.agg #[.int .i64 pa0, .int .i64 pa1, .int .i64 pa2, .int .i64 pa3, .int .i64 pa4, .int .i64 pa5, .int .i64 pa6, .int .i64 pa7, .int .i64 pa8, .int .i64 pa9, .int .i64 pa10, .int .i64 pa11, .int .i64 pa12, .int .i64 pa13, .int .i64 pa14, .int .i64 pa15, .int .i64 pa16, .int .i64 pa17, .int .i64 pa18, .int .i64 pa19, .int .i64 pa20, .int .i64 pa21, .int .i64 pa22, .int .i64 pa23], .agg #[.int .i64 qa0, .int .i64 qa1, .int .i64 qa2, .int .i64 qa3, .int .i64 qa4, .int .i64 qa5, .int .i64 qa6, .int .i64 qa7, .int .i64 qa8, .int .i64 qa9, .int .i64 qa10, .int .i64 qa11, .int .i64 qa12, .int .i64 qa13, .int .i64 qa14, .int .i64 qa15, .int .i64 qa16, .int .i64 qa17, .int .i64 qa18, .int .i64 qa19, .int .i64 qa20, .int .i64 qa21, .int .i64 qa22, .int .i64 qa23], .agg #[.int .i64 va0, .int .i64 va1, .int .i64 va2, .int .i64 va3, .int .i64 va4, .int .i64 va5]].toArray w (Rets (vB (true)) (w)) := by
  refine calls_of_doC (n := 39) Try.func66 rfl rfl rfl ?_
  refine doC_seq ?_
  refine doC_region ?_
  refine doL_box 3 rfl rfl rfl rfl ?_; intro b3
  refine doL_box 4 rfl rfl rfl rfl ?_; intro b4
  refine doL_box 5 rfl rfl rfl rfl ?_; intro b5
  refine doL_v (opV_assign rfl) rfl rfl rfl ?_
  refine doL_nil ?_
  refine post_then ?_
  refine doC_seq ?_
  refine doC_drawn 32 mo (by kernel_rfl) ?_
  simp only [List.take_succ_cons, List.take_zero, List.drop_succ_cons, List.drop_zero]
  refine doG_v (opV_loadA 3 ty63 rfl rfl rfl) rfl rfl rfl ?_
  refine doG_v (opV_loadA 5 ty34 rfl rfl rfl) rfl rfl rfl ?_
  refine doG_vg (F := v3) (opV_call en50 rfl (fun w _ => pApply _ _ _ _ _ _ _ _ _ _ _ _ _ _ _ _ _ _ _ _ _ _ _ _ _ _ _ _ _ _  w)) rfl rfl rfl ?_; intro r9 hr9
  refine doG_v (opV_loadA 3 ty63 rfl rfl rfl) rfl rfl rfl ?_
  refine doG_v (opV_loadA 5 ty34 rfl rfl rfl) rfl rfl rfl ?_
  refine doG_vg (F := v3) (opV_call en100 rfl (fun w _ => qApply _ _ _ _ _ _ _ _ _ _ _ _ _ _ _ _ _ _ _ _ _ _ _ _ _ _ _ _ _ _  w)) rfl rfl rfl ?_; intro r12 hr12
  refine doG_vg (F := vB) (opV_eqA 4 rfl ag34 rfl rfl (ce34 _ _ _ _ _ _) (ce34 _ _ _ _ _ _)) rfl rfl rfl ?_; intro r13 hr13
  obtain rfl : r13 = true := hr13.trans (eq_v3 (hr9.trans hr12.symm))
  refine doG_v (opV_move rfl) rfl rfl rfl ?_
  refine doG_v (opV_loadA 3 ty63 rfl rfl rfl) rfl rfl rfl ?_
  refine doG_vg (F := po) (opV_call en68 rfl (fun w _ => pInverse _ _ _ _ _ _ _ _ _ _ _ _ _ _ _ _ _ _ _ _ _ _ _ _  w)) rfl rfl rfl ?_; intro r16 hr16
  refine doG_v (opV_loadA 3 ty63 rfl rfl rfl) rfl rfl rfl ?_
  refine doG_vg (F := po) (opV_call en103 rfl (fun w _ => qInverse _ _ _ _ _ _ _ _ _ _ _ _ _ _ _ _ _ _ _ _ _ _ _ _  w)) rfl rfl rfl ?_; intro r18 hr18
  refine doG_vg (F := vB) (opV_eqA 5 rfl ag63 rfl rfl (ce63 _ _ _ _ _ _ _ _ _ _ _ _ _ _ _ _ _ _ _ _ _ _ _ _) (ce63 _ _ _ _ _ _ _ _ _ _ _ _ _ _ _ _ _ _ _ _ _ _ _ _)) rfl rfl rfl ?_; intro r19 hr19
  obtain rfl : r19 = true := hr19.trans (eq_po (hr16.trans hr18.symm))
  refine doG_v (opV_pick_t rfl rfl rfl rfl) rfl rfl rfl ?_
  refine doG_v (opV_move rfl) rfl rfl rfl ?_
  refine doG_v (opV_loadA 3 ty63 rfl rfl rfl) rfl rfl rfl ?_
  refine doG_v (opV_loadA 4 ty63 rfl rfl rfl) rfl rfl rfl ?_
  refine doG_vg (F := vB) (opV_call en67 rfl (fun w _ => pWithin _ _ _ _ _ _ _ _ _ _ _ _ _ _ _ _ _ _ _ _ _ _ _ _ _ _ _ _ _ _ _ _ _ _ _ _ _ _ _ _ _ _ _ _ _ _ _ _  w)) rfl rfl rfl ?_; intro r24 hr24
  refine doG_v (opV_loadA 3 ty63 rfl rfl rfl) rfl rfl rfl ?_
  refine doG_v (opV_loadA 4 ty63 rfl rfl rfl) rfl rfl rfl ?_
  refine doG_vg (F := vB) (opV_call en104 rfl (fun w _ => qWithin _ _ _ _ _ _ _ _ _ _ _ _ _ _ _ _ _ _ _ _ _ _ _ _ _ _ _ _ _ _ _ _ _ _ _ _ _ _ _ _ _ _ _ _ _ _ _ _  w)) rfl rfl rfl ?_; intro r27 hr27
  refine doG_vg (F := vB) (opV_eqlB Try.underlying4 rfl rfl) rfl rfl rfl ?_; intro r28 hr28
  obtain rfl : r28 = true := hr28.trans (eq_bb (hr24.trans hr27.symm))
  refine doG_v (opV_pick_t rfl rfl rfl rfl) rfl rfl rfl ?_
  refine doG_v (opV_move rfl) rfl rfl rfl ?_
  refine doG_v (opV_loadA 3 ty63 rfl rfl rfl) rfl rfl rfl ?_
  refine doG_v (opV_loadA 3 ty63 rfl rfl rfl) rfl rfl rfl ?_
  refine doG_vg (F := vB) (opV_call en67 rfl (fun w _ => pWithin _ _ _ _ _ _ _ _ _ _ _ _ _ _ _ _ _ _ _ _ _ _ _ _ _ _ _ _ _ _ _ _ _ _ _ _ _ _ _ _ _ _ _ _ _ _ _ _  w)) rfl rfl rfl ?_; intro r33 hr33
  refine doG_v (opV_loadA 3 ty63 rfl rfl rfl) rfl rfl rfl ?_
  refine doG_v (opV_loadA 3 ty63 rfl rfl rfl) rfl rfl rfl ?_
  refine doG_vg (F := vB) (opV_call en104 rfl (fun w _ => qWithin _ _ _ _ _ _ _ _ _ _ _ _ _ _ _ _ _ _ _ _ _ _ _ _ _ _ _ _ _ _ _ _ _ _ _ _ _ _ _ _ _ _ _ _ _ _ _ _  w)) rfl rfl rfl ?_; intro r36 hr36
  refine doG_v (opV_eqlB Try.underlying4 rfl rfl) rfl rfl rfl ?_
  refine doG_v (opV_pick_t rfl rfl rfl rfl) rfl rfl rfl ?_
  refine doG_nil ?_
  refine tail_nil ?_
  refine doL_v (opV_assign rfl) rfl rfl rfl ?_
  refine doL_nil ?_
  refine post_then ?_
  refine doC_ret ?_
  refine post_rets (rs := [.tmp 6]) rfl (resC (resIs_tmp rfl) (resN)) (congrArg (vB) (?_ : _ = true))
  exact eq_bb (hr33.trans hr36.symm)

theorem wPComposes (pa0 pa1 pa2 pa3 pa4 pa5 pa6 pa7 pa8 pa9 pa10 pa11 pa12 pa13 pa14 pa15 pa16 pa17 pa18 pa19 pa20 pa21 pa22 pa23 : Int) (qa0 qa1 qa2 qa3 qa4 qa5 qa6 qa7 qa8 qa9 qa10 qa11 qa12 qa13 qa14 qa15 qa16 qa17 qa18 qa19 qa20 qa21 qa22 qa23 : Int) (va0 va1 va2 va3 va4 va5 : Int) (axis : Int) (xa0 xa1 : Int) (lv : Value) (l : List Int) (w : World) (hl : IntsAt w w.heap.size lv l) : Calls Try.prog 14 [.agg #[.int .i64 pa0, .int .i64 pa1, .int .i64 pa2, .int .i64 pa3, .int .i64 pa4, .int .i64 pa5, .int .i64 pa6, .int .i64 pa7, .int .i64 pa8, .int .i64 pa9, .int .i64 pa10, .int .i64 pa11, .int .i64 pa12, .int .i64 pa13, .int .i64 pa14, .int .i64 pa15, .int .i64 pa16, .int .i64 pa17, .int .i64 pa18, .int .i64 pa19, .int .i64 pa20, .int .i64 pa21, .int .i64 pa22, .int .i64 pa23], .agg #[.int .i64 qa0, .int .i64 qa1, .int .i64 qa2, .int .i64 qa3, .int .i64 qa4, .int .i64 qa5, .int .i64 qa6, .int .i64 qa7, .int .i64 qa8, .int .i64 qa9, .int .i64 qa10, .int .i64 qa11, .int .i64 qa12, .int .i64 qa13, .int .i64 qa14, .int .i64 qa15, .int .i64 qa16, .int .i64 qa17, .int .i64 qa18, .int .i64 qa19, .int .i64 qa20, .int .i64 qa21, .int .i64 qa22, .int .i64 qa23], .agg #[.int .i64 va0, .int .i64 va1, .int .i64 va2, .int .i64 va3, .int .i64 va4, .int .i64 va5], .int .i64 axis, .agg #[.int .i64 xa0, .int .i64 xa1], lv].toArray w (Rets (vB (true)) (w)) := by
  refine calls_of_doC (n := 74) Try.func14 rfl rfl rfl ?_
  refine doC_seq ?_
  refine doC_region ?_
  refine doL_box 6 rfl rfl rfl rfl ?_; intro b6
  refine doL_box 7 rfl rfl rfl rfl ?_; intro b7
  refine doL_box 8 rfl rfl rfl rfl ?_; intro b8
  refine doL_box 10 rfl rfl rfl rfl ?_; intro b10
  refine doL_v (opV_assign rfl) rfl rfl rfl ?_
  refine doL_nil ?_
  refine post_then ?_
  refine doC_seq ?_
  refine doC_region ?_
  refine doL_v (opV_move rfl) rfl rfl rfl ?_
  refine doL_callNew 18 en26 rfl (fun w' k => mFrom w' (intsAt_grow hl k.grow (Nat.le_refl _))) rfl rfl ?_; intro b18
  refine doL_v (opV_assign rfl) rfl rfl rfl ?_
  refine doL_nil ?_
  refine post_then ?_
  refine doC_seq ?_
  refine doC_region ?_
  refine doL_v (opV_move rfl) rfl rfl rfl ?_
  refine doL_srcB (F := po) 18 hl rfl en49 rfl (fun w' h => motionC _  w' h) rfl rfl rfl ?_; intro r20 hr20
  refine doL_v (opV_move rfl) rfl rfl rfl ?_
  refine doL_srcB (F := po) 18 hl rfl en49 rfl (fun w' h => motionC _  w' h) rfl rfl rfl ?_; intro r22 hr22
  refine doL_alloc 14 ze63 rfl rfl rfl ?_; intro b14
  refine doL_alloc 15 ze63 rfl rfl rfl ?_; intro b15
  refine doL_store 14 ty63 rfl rfl rfl rfl rfl rfl rfl rfl ?_
  refine doL_store 15 ty63 rfl rfl rfl rfl rfl rfl rfl rfl ?_
  refine doL_nil ?_
  refine post_then ?_
  refine doC_seq ?_
  refine doC_region ?_
  refine doL_v (opV_move rfl) rfl rfl rfl ?_
  refine doL_vg (F := vI) (opV_call en22 rfl (fun w _ => mRound _ _ (by first | omega | assumption | (unfold In64; omega) | decide) w)) rfl rfl rfl ?_; intro r24 hr24
  refine doL_v (opV_assign rfl) rfl rfl rfl ?_
  refine doL_nil ?_
  refine post_then ?_
  refine doC_seq ?_
  refine doC_drawn 49 mo (by kernel_rfl) ?_
  simp only [List.take_succ_cons, List.take_zero, List.drop_succ_cons, List.drop_zero]
  refine doG_vg (F := vB) (opV_call en52 rfl (fun w _ => awake5   w)) rfl rfl rfl ?_; intro r25 hr25
  obtain rfl : r25 = true := hr25
  refine doG_v (opV_move rfl) rfl rfl rfl ?_
  refine doG_vg (F := po) (opV_call en61 rfl (fun w _ => pIdentity   w)) rfl rfl rfl ?_; intro r27 hr27
  refine doG_vg (F := po) (opV_call en62 rfl (fun w _ => qRest   w)) rfl rfl rfl ?_; intro r28 hr28
  refine doG_vg (F := vB) (opV_eqA 5 rfl ag63 rfl rfl (ce63 _ _ _ _ _ _ _ _ _ _ _ _ _ _ _ _ _ _ _ _ _ _ _ _) (ce63 _ _ _ _ _ _ _ _ _ _ _ _ _ _ _ _ _ _ _ _ _ _ _ _)) rfl rfl rfl ?_; intro r29 hr29
  obtain rfl : r29 = true := hr29.trans (eq_po (hr27.trans hr28.symm))
  refine doG_v (opV_pick_t rfl rfl rfl rfl) rfl rfl rfl ?_
  refine doG_v (opV_move rfl) rfl rfl rfl ?_
  refine doG_v (opV_loadA 8 ty34 rfl rfl rfl) rfl rfl rfl ?_
  refine doG_vg (F := po) (opV_call en53 rfl (fun w _ => pShift _ _ _ _ _ _  w)) rfl rfl rfl ?_; intro r33 hr33
  refine doG_v (opV_loadA 8 ty34 rfl rfl rfl) rfl rfl rfl ?_
  refine doG_vg (F := po) (opV_call en54 rfl (fun w _ => qShift _ _ _ _ _ _  w)) rfl rfl rfl ?_; intro r35 hr35
  refine doG_vg (F := vB) (opV_eqA 5 rfl ag63 rfl rfl (ce63 _ _ _ _ _ _ _ _ _ _ _ _ _ _ _ _ _ _ _ _ _ _ _ _) (ce63 _ _ _ _ _ _ _ _ _ _ _ _ _ _ _ _ _ _ _ _ _ _ _ _)) rfl rfl rfl ?_; intro r36 hr36
  obtain rfl : r36 = true := hr36.trans (eq_po (hr33.trans hr35.symm))
  refine doG_v (opV_pick_t rfl rfl rfl rfl) rfl rfl rfl ?_
  refine doG_v (opV_move rfl) rfl rfl rfl ?_
  refine doG_v (opV_move rfl) rfl rfl rfl ?_
  refine doG_v (opV_loadA 10 ty23 rfl rfl rfl) rfl rfl rfl ?_
  refine doG_vg (F := po) (opV_call en63 rfl (fun w _ => pTurn _ _ _  w)) rfl rfl rfl ?_; intro r41 hr41
  refine doG_v (opV_move rfl) rfl rfl rfl ?_
  refine doG_v (opV_loadA 10 ty23 rfl rfl rfl) rfl rfl rfl ?_
  refine doG_vg (F := po) (opV_call en64 rfl (fun w _ => qTurn _ _ _  w)) rfl rfl rfl ?_; intro r44 hr44
  refine doG_vg (F := vB) (opV_eqA 5 rfl ag63 rfl rfl (ce63 _ _ _ _ _ _ _ _ _ _ _ _ _ _ _ _ _ _ _ _ _ _ _ _) (ce63 _ _ _ _ _ _ _ _ _ _ _ _ _ _ _ _ _ _ _ _ _ _ _ _)) rfl rfl rfl ?_; intro r45 hr45
  obtain rfl : r45 = true := hr45.trans (eq_po (hr41.trans hr44.symm))
  refine doG_v (opV_pick_t rfl rfl rfl rfl) rfl rfl rfl ?_
  refine doG_v (opV_move rfl) rfl rfl rfl ?_
  refine doG_v (opV_move rfl) rfl rfl rfl ?_
  refine doG_v (opV_loadA 10 ty23 rfl rfl rfl) rfl rfl rfl ?_
  refine doG_vg (F := po) (opV_call en63 rfl (fun w _ => pTurn _ _ _  w)) rfl rfl rfl ?_; intro r50 hr50
  refine doG_v (opV_move rfl) rfl rfl rfl ?_
  refine doG_v (opV_loadA 10 ty23 rfl rfl rfl) rfl rfl rfl ?_
  refine doG_vg (F := po) (opV_call en64 rfl (fun w _ => qTurn _ _ _  w)) rfl rfl rfl ?_; intro r53 hr53
  refine doG_vg (F := vB) (opV_eqA 5 rfl ag63 rfl rfl (ce63 _ _ _ _ _ _ _ _ _ _ _ _ _ _ _ _ _ _ _ _ _ _ _ _) (ce63 _ _ _ _ _ _ _ _ _ _ _ _ _ _ _ _ _ _ _ _ _ _ _ _)) rfl rfl rfl ?_; intro r54 hr54
  obtain rfl : r54 = true := hr54.trans (eq_po (hr50.trans hr53.symm))
  refine doG_v (opV_pick_t rfl rfl rfl rfl) rfl rfl rfl ?_
  refine doG_v (opV_move rfl) rfl rfl rfl ?_
  refine doG_v (opV_loadA 6 ty63 rfl rfl rfl) rfl rfl rfl ?_
  refine doG_v (opV_loadA 7 ty63 rfl rfl rfl) rfl rfl rfl ?_
  refine doG_vg (F := po) (opV_call en51 rfl (fun w _ => pCompose _ _ _ _ _ _ _ _ _ _ _ _ _ _ _ _ _ _ _ _ _ _ _ _ _ _ _ _ _ _ _ _ _ _ _ _ _ _ _ _ _ _ _ _ _ _ _ _  w)) rfl rfl rfl ?_; intro r59 hr59
  refine doG_v (opV_loadA 6 ty63 rfl rfl rfl) rfl rfl rfl ?_
  refine doG_v (opV_loadA 7 ty63 rfl rfl rfl) rfl rfl rfl ?_
  refine doG_vg (F := po) (opV_call en65 rfl (fun w _ => qCompose _ _ _ _ _ _ _ _ _ _ _ _ _ _ _ _ _ _ _ _ _ _ _ _ _ _ _ _ _ _ _ _ _ _ _ _ _ _ _ _ _ _ _ _ _ _ _ _  w)) rfl rfl rfl ?_; intro r62 hr62
  refine doG_vg (F := vB) (opV_eqA 5 rfl ag63 rfl rfl (ce63 _ _ _ _ _ _ _ _ _ _ _ _ _ _ _ _ _ _ _ _ _ _ _ _) (ce63 _ _ _ _ _ _ _ _ _ _ _ _ _ _ _ _ _ _ _ _ _ _ _ _)) rfl rfl rfl ?_; intro r63 hr63
  obtain rfl : r63 = true := hr63.trans (eq_po (hr59.trans hr62.symm))
  refine doG_v (opV_pick_t rfl rfl rfl rfl) rfl rfl rfl ?_
  refine doG_v (opV_move rfl) rfl rfl rfl ?_
  refine doG_v (opV_loadA 14 ty63 rfl rfl rfl) rfl rfl rfl ?_
  refine doG_v (opV_loadA 15 ty63 rfl rfl rfl) rfl rfl rfl ?_
  refine doG_vg (F := po) (opV_call en51 rfl (fun w _ => pCompose _ _ _ _ _ _ _ _ _ _ _ _ _ _ _ _ _ _ _ _ _ _ _ _ _ _ _ _ _ _ _ _ _ _ _ _ _ _ _ _ _ _ _ _ _ _ _ _  w)) rfl rfl rfl ?_; intro r68 hr68
  refine doG_v (opV_loadA 14 ty63 rfl rfl rfl) rfl rfl rfl ?_
  refine doG_v (opV_loadA 15 ty63 rfl rfl rfl) rfl rfl rfl ?_
  refine doG_vg (F := po) (opV_call en65 rfl (fun w _ => qCompose _ _ _ _ _ _ _ _ _ _ _ _ _ _ _ _ _ _ _ _ _ _ _ _ _ _ _ _ _ _ _ _ _ _ _ _ _ _ _ _ _ _ _ _ _ _ _ _  w)) rfl rfl rfl ?_; intro r71 hr71
  refine doG_v (opV_eqA 5 rfl ag63 rfl rfl (ce63 _ _ _ _ _ _ _ _ _ _ _ _ _ _ _ _ _ _ _ _ _ _ _ _) (ce63 _ _ _ _ _ _ _ _ _ _ _ _ _ _ _ _ _ _ _ _ _ _ _ _)) rfl rfl rfl ?_
  refine doG_v (opV_pick_t rfl rfl rfl rfl) rfl rfl rfl ?_
  refine doG_nil ?_
  refine tail_nil ?_
  refine doL_v (opV_assign rfl) rfl rfl rfl ?_
  refine doL_nil ?_
  refine post_then ?_
  refine doC_ret ?_
  refine post_rets (rs := [.tmp 12]) rfl (resC (resIs_tmp rfl) (resN)) (congrArg (vB) (?_ : _ = true))
  exact eq_po (hr68.trans hr71.symm)

theorem wPApplies (pa0 pa1 pa2 pa3 pa4 pa5 pa6 pa7 pa8 pa9 pa10 pa11 pa12 pa13 pa14 pa15 pa16 pa17 pa18 pa19 pa20 pa21 pa22 pa23 : Int) (qa0 qa1 qa2 qa3 qa4 qa5 qa6 qa7 qa8 qa9 qa10 qa11 qa12 qa13 qa14 qa15 qa16 qa17 qa18 qa19 qa20 qa21 qa22 qa23 : Int) (va0 va1 va2 va3 va4 va5 : Int) (lv : Value) (l : List Int) (w : World) (hl : IntsAt w w.heap.size lv l) : Calls Try.prog 16 [.agg #[.int .i64 pa0, .int .i64 pa1, .int .i64 pa2, .int .i64 pa3, .int .i64 pa4, .int .i64 pa5, .int .i64 pa6, .int .i64 pa7, .int .i64 pa8, .int .i64 pa9, .int .i64 pa10, .int .i64 pa11, .int .i64 pa12, .int .i64 pa13, .int .i64 pa14, .int .i64 pa15, .int .i64 pa16, .int .i64 pa17, .int .i64 pa18, .int .i64 pa19, .int .i64 pa20, .int .i64 pa21, .int .i64 pa22, .int .i64 pa23], .agg #[.int .i64 qa0, .int .i64 qa1, .int .i64 qa2, .int .i64 qa3, .int .i64 qa4, .int .i64 qa5, .int .i64 qa6, .int .i64 qa7, .int .i64 qa8, .int .i64 qa9, .int .i64 qa10, .int .i64 qa11, .int .i64 qa12, .int .i64 qa13, .int .i64 qa14, .int .i64 qa15, .int .i64 qa16, .int .i64 qa17, .int .i64 qa18, .int .i64 qa19, .int .i64 qa20, .int .i64 qa21, .int .i64 qa22, .int .i64 qa23], .agg #[.int .i64 va0, .int .i64 va1, .int .i64 va2, .int .i64 va3, .int .i64 va4, .int .i64 va5], lv].toArray w (Rets (vB (true)) (w)) := by
  refine calls_of_doC (n := 46) Try.func16 rfl rfl rfl ?_
  refine doC_seq ?_
  refine doC_region ?_
  refine doL_box 4 rfl rfl rfl rfl ?_; intro b4
  refine doL_box 5 rfl rfl rfl rfl ?_; intro b5
  refine doL_box 6 rfl rfl rfl rfl ?_; intro b6
  refine doL_v (opV_assign rfl) rfl rfl rfl ?_
  refine doL_nil ?_
  refine post_then ?_
  refine doC_seq ?_
  refine doC_region ?_
  refine doL_v (opV_move rfl) rfl rfl rfl ?_
  refine doL_callNew 14 en26 rfl (fun w' k => mFrom w' (intsAt_grow hl k.grow (Nat.le_refl _))) rfl rfl ?_; intro b14
  refine doL_v (opV_assign rfl) rfl rfl rfl ?_
  refine doL_nil ?_
  refine post_then ?_
  refine doC_seq ?_
  refine doC_region ?_
  refine doL_v (opV_move rfl) rfl rfl rfl ?_
  refine doL_srcB (F := po) 14 hl rfl en49 rfl (fun w' h => motionC _  w' h) rfl rfl rfl ?_; intro r16 hr16
  refine doL_v (opV_move rfl) rfl rfl rfl ?_
  refine doL_srcB (F := po) 14 hl rfl en49 rfl (fun w' h => motionC _  w' h) rfl rfl rfl ?_; intro r18 hr18
  refine doL_alloc 10 ze63 rfl rfl rfl ?_; intro b10
  refine doL_alloc 11 ze63 rfl rfl rfl ?_; intro b11
  refine doL_store 10 ty63 rfl rfl rfl rfl rfl rfl rfl rfl ?_
  refine doL_store 11 ty63 rfl rfl rfl rfl rfl rfl rfl rfl ?_
  refine doL_nil ?_
  refine post_then ?_
  refine doC_seq ?_
  refine doC_region ?_
  refine doL_v (opV_move rfl) rfl rfl rfl ?_
  refine doL_srcB (F := vI) 14 hl rfl en28 rfl (fun w' h => srcSigned _ (by first | omega | assumption | (unfold In64; omega) | decide) w' h) rfl rfl rfl ?_; intro r20 hr20
  have br20 := srcS_b hr20 (by first | decide | omega)
  refine doL_v (opV_move rfl) rfl rfl rfl ?_
  refine doL_srcB (F := vI) 14 hl rfl en28 rfl (fun w' h => srcSigned _ (by first | omega | assumption | (unfold In64; omega) | decide) w' h) rfl rfl rfl ?_; intro r22 hr22
  have br22 := srcS_b hr22 (by first | decide | omega)
  refine doL_v (opV_move rfl) rfl rfl rfl ?_
  refine doL_srcB (F := vI) 14 hl rfl en28 rfl (fun w' h => srcSigned _ (by first | omega | assumption | (unfold In64; omega) | decide) w' h) rfl rfl rfl ?_; intro r24 hr24
  have br24 := srcS_b hr24 (by first | decide | omega)
  refine doL_v (opV_build la38 rfl rfl) rfl rfl rfl ?_
  refine doL_vg (F := v3) (opV_call en27 rfl (fun w _ => rPoint _ _ _  w)) rfl rfl rfl ?_; intro r26 hr26
  refine doL_alloc 12 ze34 rfl rfl rfl ?_; intro b12
  refine doL_store 12 ty34 rfl rfl rfl rfl rfl rfl rfl rfl ?_
  refine doL_nil ?_
  refine post_then ?_
  refine doC_seq ?_
  refine doC_region ?_
  refine doL_vg (F := vB) (opV_call en52 rfl (fun w _ => awake5   w)) rfl rfl rfl ?_; intro r27 hr27
  refine doL_v (opV_move rfl) rfl rfl rfl ?_
  refine doL_true 28 rfl (hr27) ?_
  refine doL_v (opV_loadA 4 ty63 rfl rfl rfl) rfl rfl rfl ?_
  refine doL_v (opV_loadA 5 ty63 rfl rfl rfl) rfl rfl rfl ?_
  refine doL_v (opV_loadA 6 ty34 rfl rfl rfl) rfl rfl rfl ?_
  refine doL_vg (F := vB) (opV_call en66 rfl (fun w _ => wPApplies0 _ _ _ _ _ _ _ _ _ _ _ _ _ _ _ _ _ _ _ _ _ _ _ _ _ _ _ _ _ _ _ _ _ _ _ _ _ _ _ _ _ _ _ _ _ _ _ _ _ _ _ _ _ _  w)) rfl rfl rfl ?_; intro r32 hr32
  refine doL_v (opV_pick_t rfl rfl rfl rfl) rfl rfl rfl ?_
  refine doL_v (opV_move rfl) rfl rfl rfl ?_
  refine doL_true 34 rfl (hr32) ?_
  refine doL_v (opV_loadA 10 ty63 rfl rfl rfl) rfl rfl rfl ?_
  refine doL_v (opV_loadA 11 ty63 rfl rfl rfl) rfl rfl rfl ?_
  refine doL_v (opV_loadA 12 ty34 rfl rfl rfl) rfl rfl rfl ?_
  refine doL_vg (F := vB) (opV_call en66 rfl (fun w _ => wPApplies0 _ _ _ _ _ _ _ _ _ _ _ _ _ _ _ _ _ _ _ _ _ _ _ _ _ _ _ _ _ _ _ _ _ _ _ _ _ _ _ _ _ _ _ _ _ _ _ _ _ _ _ _ _ _  w)) rfl rfl rfl ?_; intro r38 hr38
  refine doL_v (opV_pick_t rfl rfl rfl rfl) rfl rfl rfl ?_
  refine doL_v (opV_move rfl) rfl rfl rfl ?_
  refine doL_true 40 rfl (hr38) ?_
  refine doL_v (opV_loadA 10 ty63 rfl rfl rfl) rfl rfl rfl ?_
  refine doL_v (opV_loadA 10 ty63 rfl rfl rfl) rfl rfl rfl ?_
  refine doL_v (opV_loadA 6 ty34 rfl rfl rfl) rfl rfl rfl ?_
  refine doL_vg (F := vB) (opV_call en66 rfl (fun w _ => wPApplies0 _ _ _ _ _ _ _ _ _ _ _ _ _ _ _ _ _ _ _ _ _ _ _ _ _ _ _ _ _ _ _ _ _ _ _ _ _ _ _ _ _ _ _ _ _ _ _ _ _ _ _ _ _ _  w)) rfl rfl rfl ?_; intro r44 hr44
  refine doL_v (opV_pick_t rfl rfl rfl rfl) rfl rfl rfl ?_
  refine doL_v (opV_assign rfl) rfl rfl rfl ?_
  refine doL_nil ?_
  refine post_then ?_
  refine doC_ret ?_
  refine post_rets (rs := [.tmp 8]) rfl (resC (resIs_tmp rfl) (resN)) (congrArg (vB) (?_ : _ = true))
  exact hr44

theorem wPNeutral (lv : Value) (l : List Int) (wide : Bool) (w : World) (hl : IntsAt w w.heap.size lv l) : Calls Try.prog 15 [lv, .bool wide].toArray w (Rets (vB (true)) (w)) := by
  refine calls_of_doC (n := 34) Try.func15 rfl rfl rfl ?_
  refine doC_seq ?_
  refine doC_region ?_
  refine doL_v (opV_assign rfl) rfl rfl rfl ?_
  refine doL_nil ?_
  refine post_then ?_
  refine doC_seq ?_
  refine doC_region ?_
  refine doL_v (opV_move rfl) rfl rfl rfl ?_
  refine doL_callNew 7 en26 rfl (fun w' k => mFrom w' (intsAt_grow hl k.grow (Nat.le_refl _))) rfl rfl ?_; intro b7
  refine doL_v (opV_move rfl) rfl rfl rfl ?_
  refine doL_srcB (F := po) 7 hl rfl en49 rfl (fun w' h => motionC _  w' h) rfl rfl rfl ?_; intro r9 hr9
  have mr9 : ∃ s T X z, Mot r9 s T X z := hr9 ▸ motion_Mot _ _ _
  obtain ⟨sr9, Tr9, Xr9, zr9, mr9⟩ := mr9
  have kr9 := mr9.plm
  refine doL_alloc 5 ze63 rfl rfl rfl ?_; intro b5
  refine doL_store 5 ty63 rfl rfl rfl rfl rfl rfl rfl rfl ?_
  refine doL_nil ?_
  refine post_then ?_
  refine doC_seq ?_
  refine doC_drawn 24 mo (by kernel_rfl) ?_
  simp only [List.take_succ_cons, List.take_zero, List.drop_succ_cons, List.drop_zero]
  refine doG_vg (F := vB) (opV_call en52 rfl (fun w _ => awake5   w)) rfl rfl rfl ?_; intro r10 hr10
  obtain rfl : r10 = true := hr10
  refine doG_v (opV_move rfl) rfl rfl rfl ?_
  refine doG_v (opV_loadA 5 ty63 rfl rfl rfl) rfl rfl rfl ?_
  refine doG_vg (F := po) (opV_call en61 rfl (fun w _ => pIdentity   w)) rfl rfl rfl ?_; intro r13 hr13
  refine doG_vg (F := po) (opV_call en51 rfl (fun w _ => pCompose _ _ _ _ _ _ _ _ _ _ _ _ _ _ _ _ _ _ _ _ _ _ _ _ _ _ _ _ _ _ _ _ _ _ _ _ _ _ _ _ _ _ _ _ _ _ _ _  w)) rfl rfl rfl ?_; intro r14 hr14
  refine doG_v (opV_loadA 5 ty63 rfl rfl rfl) rfl rfl rfl ?_
  refine doG_vg (F := vB) (opV_eqA 5 rfl ag63 rfl rfl (ce63 _ _ _ _ _ _ _ _ _ _ _ _ _ _ _ _ _ _ _ _ _ _ _ _) (ce63 _ _ _ _ _ _ _ _ _ _ _ _ _ _ _ _ _ _ _ _ _ _ _ _)) rfl rfl rfl ?_; intro r16 hr16
  obtain rfl : r16 = true := hr16.trans (eq_po (by have e14 : r14 = Po.mul r9 r13 := hr14; rw [e14, hr13]; exact (neutral kr9).1))
  refine doG_v (opV_pick_t rfl rfl rfl rfl) rfl rfl rfl ?_
  refine doG_v (opV_move rfl) rfl rfl rfl ?_
  refine doG_vg (F := po) (opV_call en61 rfl (fun w _ => pIdentity   w)) rfl rfl rfl ?_; intro r19 hr19
  refine doG_v (opV_loadA 5 ty63 rfl rfl rfl) rfl rfl rfl ?_
  refine doG_vg (F := po) (opV_call en51 rfl (fun w _ => pCompose _ _ _ _ _ _ _ _ _ _ _ _ _ _ _ _ _ _ _ _ _ _ _ _ _ _ _ _ _ _ _ _ _ _ _ _ _ _ _ _ _ _ _ _ _ _ _ _  w)) rfl rfl rfl ?_; intro r21 hr21
  refine doG_v (opV_loadA 5 ty63 rfl rfl rfl) rfl rfl rfl ?_
  refine doG_vg (F := vB) (opV_eqA 5 rfl ag63 rfl rfl (ce63 _ _ _ _ _ _ _ _ _ _ _ _ _ _ _ _ _ _ _ _ _ _ _ _) (ce63 _ _ _ _ _ _ _ _ _ _ _ _ _ _ _ _ _ _ _ _ _ _ _ _)) rfl rfl rfl ?_; intro r23 hr23
  obtain rfl : r23 = true := hr23.trans (eq_po (by have e21 : r21 = Po.mul r19 r9 := hr21; rw [e21, hr19]; exact (neutral kr9).2.1))
  refine doG_v (opV_pick_t rfl rfl rfl rfl) rfl rfl rfl ?_
  refine doG_v (opV_move rfl) rfl rfl rfl ?_
  refine doG_vg (F := po) (opV_call en61 rfl (fun w _ => pIdentity   w)) rfl rfl rfl ?_; intro r26 hr26
  refine doG_v (opV_fieldAddr fa63_1 rfl) rfl rfl rfl ?_
  refine doG_v (opV_loadA 5 ty34 rfl rfl rfl) rfl rfl rfl ?_
  refine doG_vg (F := v3) (opV_call en50 rfl (fun w _ => pApply _ _ _ _ _ _ _ _ _ _ _ _ _ _ _ _ _ _ _ _ _ _ _ _ _ _ _ _ _ _  w)) rfl rfl rfl ?_; intro r29 hr29
  refine doG_v (opV_fieldAddr fa63_1 rfl) rfl rfl rfl ?_
  refine doG_v (opV_loadA 5 ty34 rfl rfl rfl) rfl rfl rfl ?_
  refine doG_v (opV_eqA 4 rfl ag34 rfl rfl (ce34 _ _ _ _ _ _) (ce34 _ _ _ _ _ _)) rfl rfl rfl ?_
  refine doG_v (opV_pick_t rfl rfl rfl rfl) rfl rfl rfl ?_
  refine doG_nil ?_
  refine tail_nil ?_
  refine doL_v (opV_assign rfl) rfl rfl rfl ?_
  refine doL_nil ?_
  refine post_then ?_
  refine doC_ret ?_
  refine post_rets (rs := [.tmp 4]) rfl (resC (resIs_tmp rfl) (resN)) (congrArg (vB) (?_ : _ = true))
  exact eq_v3 (b := r9.t) (by have e29 : r29 = Po.app r26 r9.t := hr29; rw [e29, hr26]; exact (neutral kr9).2.2)

theorem wPShifts (ua0 ua1 ua2 : Int) (va0 va1 va2 : Int) (lv : Value) (l : List Int) (w : World) (hl : IntsAt w w.heap.size lv l) : Calls Try.prog 12 [.agg #[.int .i64 ua0, .int .i64 ua1, .int .i64 ua2], .agg #[.int .i64 va0, .int .i64 va1, .int .i64 va2], lv].toArray w (Rets (vB (true)) (w)) := by
  refine calls_of_doC (n := 44) Try.func12 rfl rfl rfl ?_
  refine doC_seq ?_
  refine doC_region ?_
  refine doL_box 3 rfl rfl rfl rfl ?_; intro b3
  refine doL_box 4 rfl rfl rfl rfl ?_; intro b4
  refine doL_v (opV_assign rfl) rfl rfl rfl ?_
  refine doL_nil ?_
  refine post_then ?_
  refine doC_seq ?_
  refine doC_drawn 6 mo (by kernel_rfl) ?_
  simp only [List.take_succ_cons, List.take_zero, List.drop_succ_cons, List.drop_zero]
  refine doG_v (opV_loadA 3 ty38 rfl rfl rfl) rfl rfl rfl ?_
  refine doG_vg (F := v3) (opV_call en27 rfl (fun w _ => rPoint _ _ _  w)) rfl rfl rfl ?_; intro r11 hr11
  refine doG_v (opV_loadA 4 ty38 rfl rfl rfl) rfl rfl rfl ?_
  refine doG_vg (F := v3) (opV_call en27 rfl (fun w _ => rPoint _ _ _  w)) rfl rfl rfl ?_; intro r13 hr13
  refine doG_alloc ze34 rfl rfl rfl rfl ?_
  refine doG_alloc ze34 rfl rfl rfl rfl ?_
  refine doG_nil ?_
  refine tail_alloc 8 rfl ?_; intro b8_2
  refine tail_alloc 7 rfl ?_; intro b7_2
  refine tail_nil ?_
  refine doL_store 7 ty34 rfl rfl rfl rfl rfl rfl rfl rfl ?_
  refine doL_store 8 ty34 rfl rfl rfl rfl rfl rfl rfl rfl ?_
  refine doL_nil ?_
  refine post_then ?_
  refine doC_seq ?_
  refine doC_region ?_
  refine doL_v (opV_move rfl) rfl rfl rfl ?_
  refine doL_callNew 15 en26 rfl (fun w' k => mFrom w' (intsAt_grow hl k.grow (Nat.le_refl _))) rfl rfl ?_; intro b15
  refine doL_srcB (F := po) 15 hl rfl en49 rfl (fun w' h => motionC _  w' h) rfl rfl rfl ?_; intro r16 hr16
  have mr16 : ∃ s T X z, Mot r16 s T X z := hr16 ▸ motion_Mot _ _ _
  obtain ⟨sr16, Tr16, Xr16, zr16, mr16⟩ := mr16
  have kr16 := mr16.plm
  refine doL_alloc 9 ze63 rfl rfl rfl ?_; intro b9
  refine doL_store 9 ty63 rfl rfl rfl rfl rfl rfl rfl rfl ?_
  refine doL_nil ?_
  refine post_then ?_
  refine doC_seq ?_
  refine doC_drawn 27 mo (by kernel_rfl) ?_
  simp only [List.take_succ_cons, List.take_zero, List.drop_succ_cons, List.drop_zero]
  refine doG_vg (F := vB) (opV_call en52 rfl (fun w _ => awake5   w)) rfl rfl rfl ?_; intro r17 hr17
  obtain rfl : r17 = true := hr17
  refine doG_v (opV_move rfl) rfl rfl rfl ?_
  refine doG_v (opV_loadA 7 ty34 rfl rfl rfl) rfl rfl rfl ?_
  refine doG_vg (F := po) (opV_call en53 rfl (fun w _ => pShift _ _ _ _ _ _  w)) rfl rfl rfl ?_; intro r20 hr20
  refine doG_v (opV_loadA 8 ty34 rfl rfl rfl) rfl rfl rfl ?_
  refine doG_vg (F := po) (opV_call en53 rfl (fun w _ => pShift _ _ _ _ _ _  w)) rfl rfl rfl ?_; intro r22 hr22
  refine doG_vg (F := po) (opV_call en51 rfl (fun w _ => pCompose _ _ _ _ _ _ _ _ _ _ _ _ _ _ _ _ _ _ _ _ _ _ _ _ _ _ _ _ _ _ _ _ _ _ _ _ _ _ _ _ _ _ _ _ _ _ _ _  w)) rfl rfl rfl ?_; intro r23 hr23
  refine doG_v (opV_loadA 7 ty34 rfl rfl rfl) rfl rfl rfl ?_
  refine doG_v (opV_loadA 8 ty34 rfl rfl rfl) rfl rfl rfl ?_
  refine doG_vg (F := v3) (opV_call en55 rfl (fun w _ => rAddVec _ _ _ _ _ _ _ _ _ _ _ _  w)) rfl rfl rfl ?_; intro r26 hr26
  refine doG_vg (F := po) (opV_call en54 rfl (fun w _ => qShift _ _ _ _ _ _  w)) rfl rfl rfl ?_; intro r27 hr27
  refine doG_vg (F := vB) (opV_eqA 5 rfl ag63 rfl rfl (ce63 _ _ _ _ _ _ _ _ _ _ _ _ _ _ _ _ _ _ _ _ _ _ _ _) (ce63 _ _ _ _ _ _ _ _ _ _ _ _ _ _ _ _ _ _ _ _ _ _ _ _)) rfl rfl rfl ?_; intro r28 hr28
  obtain rfl : r28 = true := hr28.trans (eq_po (by have e23 : r23 = Po.mul r20 r22 := hr23; have e20 : r20 = Po.shift r11 := hr20; have e22 : r22 = Po.shift r13 := hr22; have e27 : r27 = Po.shift r26 := hr27; have e26 : r26 = V3.add r11 r13 := hr26; rw [e23, e20, e22, e27, e26]; exact shift_shift (hr13 ▸ of_VOk _)))
  refine doG_v (opV_pick_t rfl rfl rfl rfl) rfl rfl rfl ?_
  refine doG_v (opV_move rfl) rfl rfl rfl ?_
  refine doG_v (opV_loadA 7 ty34 rfl rfl rfl) rfl rfl rfl ?_
  refine doG_vg (F := po) (opV_call en53 rfl (fun w _ => pShift _ _ _ _ _ _  w)) rfl rfl rfl ?_; intro r32 hr32
  refine doG_v (opV_loadA 9 ty63 rfl rfl rfl) rfl rfl rfl ?_
  refine doG_vg (F := po) (opV_call en51 rfl (fun w _ => pCompose _ _ _ _ _ _ _ _ _ _ _ _ _ _ _ _ _ _ _ _ _ _ _ _ _ _ _ _ _ _ _ _ _ _ _ _ _ _ _ _ _ _ _ _ _ _ _ _  w)) rfl rfl rfl ?_; intro r34 hr34
  refine doG_v (opV_fieldAddr fa63_0 rfl) rfl rfl rfl ?_
  refine doG_v (opV_loadA 9 ty28 rfl rfl rfl) rfl rfl rfl ?_
  refine doG_v (opV_loadA 7 ty34 rfl rfl rfl) rfl rfl rfl ?_
  refine doG_v (opV_fieldAddr fa63_1 rfl) rfl rfl rfl ?_
  refine doG_v (opV_loadA 9 ty34 rfl rfl rfl) rfl rfl rfl ?_
  refine doG_vg (F := v3) (opV_call en55 rfl (fun w _ => rAddVec _ _ _ _ _ _ _ _ _ _ _ _  w)) rfl rfl rfl ?_; intro r40 hr40
  refine doG_v (opV_build la63 rfl rfl) rfl rfl rfl ?_
  refine doG_v (opV_eqA 5 rfl ag63 rfl rfl (ce63 _ _ _ _ _ _ _ _ _ _ _ _ _ _ _ _ _ _ _ _ _ _ _ _) (ce63 _ _ _ _ _ _ _ _ _ _ _ _ _ _ _ _ _ _ _ _ _ _ _ _)) rfl rfl rfl ?_
  refine doG_v (opV_pick_t rfl rfl rfl rfl) rfl rfl rfl ?_
  refine doG_nil ?_
  refine tail_nil ?_
  refine doL_v (opV_assign rfl) rfl rfl rfl ?_
  refine doL_nil ?_
  refine post_then ?_
  refine doC_ret ?_
  refine post_rets (rs := [.tmp 6]) rfl (resC (resIs_tmp rfl) (resN)) (congrArg (vB) (?_ : _ = true))
  exact eq_po (pa := r34) (pb := ⟨r16.r, r40⟩) (by have e34 : r34 = Po.mul r32 r16 := hr34; have e32 : r32 = Po.shift r11 := hr32; have e40 : r40 = V3.add r11 r16.t := hr40; rw [e34, e32, e40]; exact shift_pose kr16)

theorem wPInverse (lv : Value) (l : List Int) (wide : Bool) (w : World) (hl : IntsAt w w.heap.size lv l) : Calls Try.prog 18 [lv, .bool wide].toArray w (Rets (vB (true)) (w)) := by
  refine calls_of_doC (n := 58) Try.func18 rfl rfl rfl ?_
  refine doC_seq ?_
  refine doC_region ?_
  refine doL_v (opV_assign rfl) rfl rfl rfl ?_
  refine doL_nil ?_
  refine post_then ?_
  refine doC_seq ?_
  refine doC_region ?_
  refine doL_v (opV_move rfl) rfl rfl rfl ?_
  refine doL_callNew 10 en26 rfl (fun w' k => mFrom w' (intsAt_grow hl k.grow (Nat.le_refl _))) rfl rfl ?_; intro b10
  refine doL_v (opV_assign rfl) rfl rfl rfl ?_
  refine doL_nil ?_
  refine post_then ?_
  refine doC_seq ?_
  refine doC_region ?_
  refine doL_v (opV_move rfl) rfl rfl rfl ?_
  refine doL_v (opV_move rfl) rfl rfl rfl ?_
  refine doL_srcB (F := po) 10 hl rfl en49 rfl (fun w' h => motionC _  w' h) rfl rfl rfl ?_; intro r13 hr13
  have mr13 : ∃ s T X z, Mot r13 s T X z := hr13 ▸ motion_Mot _ _ _
  obtain ⟨sr13, Tr13, Xr13, zr13, mr13⟩ := mr13
  have kr13 := mr13.plm
  refine doL_alloc 6 ze63 rfl rfl rfl ?_; intro b6
  refine doL_store 6 ty63 rfl rfl rfl rfl rfl rfl rfl rfl ?_
  refine doL_nil ?_
  refine post_then ?_
  refine doC_seq ?_
  refine doC_region ?_
  refine doL_v (opV_move rfl) rfl rfl rfl ?_
  refine doL_srcB (F := vI) 10 hl rfl en28 rfl (fun w' h => srcSigned _ (by first | omega | assumption | (unfold In64; omega) | decide) w' h) rfl rfl rfl ?_; intro r15 hr15
  have br15 := srcS_b hr15 (by first | decide | omega)
  refine doL_v (opV_move rfl) rfl rfl rfl ?_
  refine doL_srcB (F := vI) 10 hl rfl en28 rfl (fun w' h => srcSigned _ (by first | omega | assumption | (unfold In64; omega) | decide) w' h) rfl rfl rfl ?_; intro r17 hr17
  have br17 := srcS_b hr17 (by first | decide | omega)
  refine doL_v (opV_move rfl) rfl rfl rfl ?_
  refine doL_srcB (F := vI) 10 hl rfl en28 rfl (fun w' h => srcSigned _ (by first | omega | assumption | (unfold In64; omega) | decide) w' h) rfl rfl rfl ?_; intro r19 hr19
  have br19 := srcS_b hr19 (by first | decide | omega)
  refine doL_v (opV_build la38 rfl rfl) rfl rfl rfl ?_
  refine doL_vg (F := v3) (opV_call en27 rfl (fun w _ => rPoint _ _ _  w)) rfl rfl rfl ?_; intro r21 hr21
  refine doL_alloc 7 ze34 rfl rfl rfl ?_; intro b7
  refine doL_store 7 ty34 rfl rfl rfl rfl rfl rfl rfl rfl ?_
  refine doL_nil ?_
  refine post_then ?_
  refine doC_seq ?_
  have vb : RB 200000 (Z3.r ⟨r15, r17, r19⟩) := ⟨br15, br17, br19⟩
  refine doC_region ?_
  refine doL_v (opV_loadA 6 ty63 rfl rfl rfl) rfl rfl rfl ?_
  refine doL_vg (F := po) (opV_call en68 rfl (fun w _ => pInverse _ _ _ _ _ _ _ _ _ _ _ _ _ _ _ _ _ _ _ _ _ _ _ _  w)) rfl rfl rfl ?_; intro r23 hr23
  refine doL_alloc 8 ze63 rfl rfl rfl ?_; intro b8
  refine doL_store 8 ty63 rfl rfl rfl rfl rfl rfl rfl rfl ?_
  refine doL_nil ?_
  refine post_then ?_
  refine doC_seq ?_
  refine doC_drawn 34 mo (by kernel_rfl) ?_
  simp only [List.take_succ_cons, List.take_zero, List.drop_succ_cons, List.drop_zero]
  refine doG_vg (F := vB) (opV_call en52 rfl (fun w _ => awake5   w)) rfl rfl rfl ?_; intro r24 hr24
  obtain rfl : r24 = true := hr24
  refine doG_v (opV_move rfl) rfl rfl rfl ?_
  refine doG_v (opV_loadA 7 ty34 rfl rfl rfl) rfl rfl rfl ?_
  refine doG_v (opV_loadA 8 ty63 rfl rfl rfl) rfl rfl rfl ?_
  refine doG_v (opV_loadA 6 ty63 rfl rfl rfl) rfl rfl rfl ?_
  refine doG_v (opV_loadA 7 ty34 rfl rfl rfl) rfl rfl rfl ?_
  refine doG_vg (F := v3) (opV_call en50 rfl (fun w _ => pApply _ _ _ _ _ _ _ _ _ _ _ _ _ _ _ _ _ _ _ _ _ _ _ _ _ _ _ _ _ _  w)) rfl rfl rfl ?_; intro r30 hr30
  refine doG_vg (F := v3) (opV_call en50 rfl (fun w _ => pApply _ _ _ _ _ _ _ _ _ _ _ _ _ _ _ _ _ _ _ _ _ _ _ _ _ _ _ _ _ _  w)) rfl rfl rfl ?_; intro r31 hr31
  refine doG_vg (F := vB) (opV_call en69 rfl (fun w _ => rWithinVec _ _ _ _ _ _ _ _ _ _ _ _  w)) rfl rfl rfl ?_; intro r32 hr32
  obtain rfl : r32 = true := (by have e23 : r23 = Po.inv r13 := hr23; have e30 : r30 = Po.app r13 r21 := hr30; have e31 : r31 = Po.app r23 r30 := hr31; have e32 : r32 = V3.within r21 r31 := hr32; rw [e32, e31, e30, e23, hr21]; exact inv1 mr13 vb)
  refine doG_v (opV_pick_t rfl rfl rfl rfl) rfl rfl rfl ?_
  refine doG_v (opV_move rfl) rfl rfl rfl ?_
  refine doG_v (opV_loadA 7 ty34 rfl rfl rfl) rfl rfl rfl ?_
  refine doG_v (opV_loadA 6 ty63 rfl rfl rfl) rfl rfl rfl ?_
  refine doG_v (opV_loadA 8 ty63 rfl rfl rfl) rfl rfl rfl ?_
  refine doG_v (opV_loadA 7 ty34 rfl rfl rfl) rfl rfl rfl ?_
  refine doG_vg (F := v3) (opV_call en50 rfl (fun w _ => pApply _ _ _ _ _ _ _ _ _ _ _ _ _ _ _ _ _ _ _ _ _ _ _ _ _ _ _ _ _ _  w)) rfl rfl rfl ?_; intro r39 hr39
  refine doG_vg (F := v3) (opV_call en50 rfl (fun w _ => pApply _ _ _ _ _ _ _ _ _ _ _ _ _ _ _ _ _ _ _ _ _ _ _ _ _ _ _ _ _ _  w)) rfl rfl rfl ?_; intro r40 hr40
  refine doG_vg (F := vB) (opV_call en69 rfl (fun w _ => rWithinVec _ _ _ _ _ _ _ _ _ _ _ _  w)) rfl rfl rfl ?_; intro r41 hr41
  obtain rfl : r41 = true := (by have e23 : r23 = Po.inv r13 := hr23; have e39 : r39 = Po.app r23 r21 := hr39; have e40 : r40 = Po.app r13 r39 := hr40; have e41 : r41 = V3.within r21 r40 := hr41; rw [e41, e40, e39, e23, hr21]; exact inv2 mr13 vb)
  refine doG_v (opV_pick_t rfl rfl rfl rfl) rfl rfl rfl ?_
  refine doG_v (opV_move rfl) rfl rfl rfl ?_
  refine doG_v (opV_loadA 7 ty34 rfl rfl rfl) rfl rfl rfl ?_
  refine doG_v (opV_loadA 6 ty63 rfl rfl rfl) rfl rfl rfl ?_
  refine doG_v (opV_loadA 8 ty63 rfl rfl rfl) rfl rfl rfl ?_
  refine doG_vg (F := po) (opV_call en51 rfl (fun w _ => pCompose _ _ _ _ _ _ _ _ _ _ _ _ _ _ _ _ _ _ _ _ _ _ _ _ _ _ _ _ _ _ _ _ _ _ _ _ _ _ _ _ _ _ _ _ _ _ _ _  w)) rfl rfl rfl ?_; intro r47 hr47
  refine doG_v (opV_loadA 7 ty34 rfl rfl rfl) rfl rfl rfl ?_
  refine doG_vg (F := v3) (opV_call en50 rfl (fun w _ => pApply _ _ _ _ _ _ _ _ _ _ _ _ _ _ _ _ _ _ _ _ _ _ _ _ _ _ _ _ _ _  w)) rfl rfl rfl ?_; intro r49 hr49
  refine doG_vg (F := vB) (opV_call en69 rfl (fun w _ => rWithinVec _ _ _ _ _ _ _ _ _ _ _ _  w)) rfl rfl rfl ?_; intro r50 hr50
  obtain rfl : r50 = true := (by have e23 : r23 = Po.inv r13 := hr23; have e47 : r47 = Po.mul r13 r23 := hr47; have e49 : r49 = Po.app r47 r21 := hr49; have e50 : r50 = V3.within r21 r49 := hr50; rw [e50, e49, e47, e23, hr21]; exact inv3 mr13 vb)
  refine doG_v (opV_pick_t rfl rfl rfl rfl) rfl rfl rfl ?_
  refine doG_v (opV_move rfl) rfl rfl rfl ?_
  refine doG_v (opV_loadA 6 ty63 rfl rfl rfl) rfl rfl rfl ?_
  refine doG_v (opV_loadA 8 ty63 rfl rfl rfl) rfl rfl rfl ?_
  refine doG_vg (F := po) (opV_call en68 rfl (fun w _ => pInverse _ _ _ _ _ _ _ _ _ _ _ _ _ _ _ _ _ _ _ _ _ _ _ _  w)) rfl rfl rfl ?_; intro r55 hr55
  refine doG_vg (F := vB) (opV_call en67 rfl (fun w _ => pWithin _ _ _ _ _ _ _ _ _ _ _ _ _ _ _ _ _ _ _ _ _ _ _ _ _ _ _ _ _ _ _ _ _ _ _ _ _ _ _ _ _ _ _ _ _ _ _ _  w)) rfl rfl rfl ?_; intro r56 hr56
  refine doG_v (opV_pick_t rfl rfl rfl rfl) rfl rfl rfl ?_
  refine doG_nil ?_
  refine tail_nil ?_
  refine doL_v (opV_assign rfl) rfl rfl rfl ?_
  refine doL_nil ?_
  refine post_then ?_
  refine doC_ret ?_
  refine post_rets (rs := [.tmp 4]) rfl (resC (resIs_tmp rfl) (resN)) (congrArg (vB) (?_ : _ = true))
  have e23 : r23 = Po.inv r13 := hr23; have e55 : r55 = Po.inv r23 := hr55; have e56 : r56 = Po.within r13 r55 := hr56; rw [e56, e55, e23]; exact inv4 mr13

set_option maxRecDepth 100000 in
theorem wPChain (lv : Value) (l : List Int) (w : World) (hl : IntsAt w w.heap.size lv l) : Calls Try.prog 11 [lv].toArray w (Rets (vB (true)) (w)) := by
  refine calls_of_doC (n := 53) Try.func11 rfl rfl rfl ?_
  refine doC_seq ?_
  refine doC_region ?_
  refine doL_v (opV_assign rfl) rfl rfl rfl ?_
  refine doL_nil ?_
  refine post_then ?_
  refine doC_seq ?_
  refine doC_region ?_
  refine doL_v (opV_move rfl) rfl rfl rfl ?_
  refine doL_callNew 13 en26 rfl (fun w' k => mFrom w' (intsAt_grow hl k.grow (Nat.le_refl _))) rfl rfl ?_; intro b13
  refine doL_v (opV_assign rfl) rfl rfl rfl ?_
  refine doL_nil ?_
  refine post_then ?_
  refine doC_seq ?_
  refine doC_region ?_
  refine doL_v (opV_move rfl) rfl rfl rfl ?_
  refine doL_srcB (F := po) 13 hl rfl en49 rfl (fun w' h => motionC _  w' h) rfl rfl rfl ?_; intro r15 hr15
  have mr15 : ∃ s T X z, Mot r15 s T X z := hr15 ▸ motion_Mot _ _ _
  obtain ⟨sr15, Tr15, Xr15, zr15, mr15⟩ := mr15
  have kr15 := mr15.plm
  refine doL_v (opV_move rfl) rfl rfl rfl ?_
  refine doL_srcB (F := po) 13 hl rfl en49 rfl (fun w' h => motionC _  w' h) rfl rfl rfl ?_; intro r17 hr17
  have mr17 : ∃ s T X z, Mot r17 s T X z := hr17 ▸ motion_Mot _ _ _
  obtain ⟨sr17, Tr17, Xr17, zr17, mr17⟩ := mr17
  have kr17 := mr17.plm
  refine doL_alloc 4 ze63 rfl rfl rfl ?_; intro b4
  refine doL_alloc 5 ze63 rfl rfl rfl ?_; intro b5
  refine doL_store 4 ty63 rfl rfl rfl rfl rfl rfl rfl rfl ?_
  refine doL_store 5 ty63 rfl rfl rfl rfl rfl rfl rfl rfl ?_
  refine doL_nil ?_
  refine post_then ?_
  refine doC_seq ?_
  refine doC_region ?_
  refine doL_v (opV_move rfl) rfl rfl rfl ?_
  refine doL_srcB (F := vI) 13 hl rfl en28 rfl (fun w' h => srcSigned _ (by first | omega | assumption | (unfold In64; omega) | decide) w' h) rfl rfl rfl ?_; intro r19 hr19
  have br19 := srcS_b hr19 (by first | decide | omega)
  refine doL_v (opV_move rfl) rfl rfl rfl ?_
  refine doL_srcB (F := vI) 13 hl rfl en28 rfl (fun w' h => srcSigned _ (by first | omega | assumption | (unfold In64; omega) | decide) w' h) rfl rfl rfl ?_; intro r21 hr21
  have br21 := srcS_b hr21 (by first | decide | omega)
  refine doL_v (opV_move rfl) rfl rfl rfl ?_
  refine doL_srcB (F := vI) 13 hl rfl en28 rfl (fun w' h => srcSigned _ (by first | omega | assumption | (unfold In64; omega) | decide) w' h) rfl rfl rfl ?_; intro r23 hr23
  have br23 := srcS_b hr23 (by first | decide | omega)
  refine doL_v (opV_build la38 rfl rfl) rfl rfl rfl ?_
  refine doL_vg (F := v3) (opV_call en27 rfl (fun w _ => rPoint _ _ _  w)) rfl rfl rfl ?_; intro r25 hr25
  refine doL_alloc 6 ze34 rfl rfl rfl ?_; intro b6
  refine doL_store 6 ty34 rfl rfl rfl rfl rfl rfl rfl rfl ?_
  refine doL_nil ?_
  refine post_then ?_
  refine doC_seq ?_
  have vb : RB 200000 (Z3.r ⟨r19, r21, r23⟩) := ⟨br19, br21, br23⟩
  refine doC_drawn 12 mo (by kernel_rfl) ?_
  simp only [List.take_succ_cons, List.take_zero, List.drop_succ_cons, List.drop_zero]
  refine doG_v (opV_loadA 4 ty63 rfl rfl rfl) rfl rfl rfl ?_
  refine doG_v (opV_loadA 5 ty63 rfl rfl rfl) rfl rfl rfl ?_
  refine doG_vg (F := po) (opV_call en51 rfl (fun w _ => pCompose _ _ _ _ _ _ _ _ _ _ _ _ _ _ _ _ _ _ _ _ _ _ _ _ _ _ _ _ _ _ _ _ _ _ _ _ _ _ _ _ _ _ _ _ _ _ _ _  w)) rfl rfl rfl ?_; intro r28 hr28
  refine doG_v (opV_loadA 6 ty34 rfl rfl rfl) rfl rfl rfl ?_
  refine doG_vg (F := v3) (opV_call en50 rfl (fun w _ => pApply _ _ _ _ _ _ _ _ _ _ _ _ _ _ _ _ _ _ _ _ _ _ _ _ _ _ _ _ _ _  w)) rfl rfl rfl ?_; intro r30 hr30
  refine doG_v (opV_loadA 4 ty63 rfl rfl rfl) rfl rfl rfl ?_
  refine doG_v (opV_loadA 5 ty63 rfl rfl rfl) rfl rfl rfl ?_
  refine doG_v (opV_loadA 6 ty34 rfl rfl rfl) rfl rfl rfl ?_
  refine doG_vg (F := v3) (opV_call en50 rfl (fun w _ => pApply _ _ _ _ _ _ _ _ _ _ _ _ _ _ _ _ _ _ _ _ _ _ _ _ _ _ _ _ _ _  w)) rfl rfl rfl ?_; intro r34 hr34
  refine doG_vg (F := v3) (opV_call en50 rfl (fun w _ => pApply _ _ _ _ _ _ _ _ _ _ _ _ _ _ _ _ _ _ _ _ _ _ _ _ _ _ _ _ _ _  w)) rfl rfl rfl ?_; intro r35 hr35
  refine doG_alloc ze34 rfl rfl rfl rfl ?_
  refine doG_alloc ze34 rfl rfl rfl rfl ?_
  refine doG_nil ?_
  refine tail_alloc 8 rfl ?_; intro b8_2
  refine tail_alloc 7 rfl ?_; intro b7_2
  refine tail_nil ?_
  refine doL_store 7 ty34 rfl rfl rfl rfl rfl rfl rfl rfl ?_
  refine doL_store 8 ty34 rfl rfl rfl rfl rfl rfl rfl rfl ?_
  refine doL_nil ?_
  refine post_then ?_
  refine doC_seq ?_
  refine doC_seq ?_
  have mm : VMeet r30 r35 := by
    have e28 : r28 = Po.mul r15 r17 := hr28
    have e30 : r30 = Po.app r28 r25 := hr30
    have e34 : r34 = Po.app r17 r25 := hr34
    have e35 : r35 = Po.app r15 r34 := hr35
    rw [e30, e28, e35, e34, hr25]
    exact chain_law mr15 mr17 vb
  refine doC_region ?_
  refine doL_v (opV_assign rfl) rfl rfl rfl ?_
  refine doL_nil ?_
  refine post_then ?_
  refine doC_block ?_
  refine doC_rounds 4 ?_
  refine doR_succ ?_
  refine doC_seq ?_
  refine doC_seq ?_
  refine doC_region ?_
  refine doL_v (opV_move rfl) rfl rfl rfl ?_
  refine doL_v (opV_lss rfl rfl) rfl rfl rfl ?_
  refine doL_nil ?_
  refine post_then ?_
  refine doC_cond_t rfl (by decide) ?_
  refine doC_skip ?_
  refine post_then ?_
  refine doC_seq ?_
  refine doC_block ?_
  refine doC_seq ?_
  refine doC_keep (ks := [2, 7, 8, 9]) rfl ?_
  refine doC_keepH (ks := [7, 8]) rfl ?_
  refine doC_late 11 9 (by repeat (first | exact putP_body | refine putP_then ?_ | refine putP_block ?_)) mo (by kernel_rfl) ?_
  simp only [List.take_succ_cons, List.take_zero, List.drop_succ_cons, List.drop_zero]
  refine doG_v (opV_move rfl) rfl rfl rfl ?_
  refine doG_v (opV_indexAddr ar34 rfl rfl (by first | decide | omega) (by first | decide | omega)) rfl rfl rfl ?_
  refine doG_v (opV_loadA 7 ty23 rfl rfl rfl) rfl rfl rfl ?_
  refine doG_v (opV_move rfl) rfl rfl rfl ?_
  refine doG_v (opV_indexAddr ar34 rfl rfl (by first | decide | omega) (by first | decide | omega)) rfl rfl rfl ?_
  refine doG_v (opV_loadA 8 ty23 rfl rfl rfl) rfl rfl rfl ?_
  refine doG_vg (F := ivB) (opV_call en32 rfl (fun w _ => rMeet _ _ _ _  w)) rfl rfl rfl ?_; intro r47 hr47
  refine doG_v (opV_move rfl) rfl rfl rfl ?_
  refine doG_v (opV_extract rfl rfl) rfl rfl rfl ?_
  refine doG_v (opV_extract rfl rfl) rfl rfl rfl ?_
  refine doG_alloc ze23 rfl rfl rfl rfl ?_
  refine doG_nil ?_
  refine tail_alloc 10 rfl ?_; intro b10_2
  refine tail_nil ?_
  refine doL_store 10 ty23 rfl rfl rfl rfl rfl rfl rfl rfl ?_
  refine doL_v (opV_assign rfl) rfl rfl rfl ?_
  refine doL_nil ?_
  refine post_then ?_
  refine doC_seq ?_
  refine doC_region ?_
  refine doL_v (opV_move rfl) rfl rfl rfl ?_
  refine doL_v (opV_not rfl) rfl rfl rfl ?_
  refine doL_nil ?_
  refine post_then ?_
  refine doC_cond_f rfl (congrArg not ((congrArg Prod.snd hr47).trans ((meet_snd _ _).trans mm.x))) ?_
  refine doC_skip ?_
  refine post_block_normal ?_
  refine post_then ?_
  refine doC_region ?_
  refine doL_v (opV_move rfl) rfl rfl rfl ?_
  refine doL_v (opV_add rfl rfl (by first | exact i64_in ⟨by omega, by omega⟩ | rfl)) rfl rfl rfl ?_
  refine doL_v (opV_assign rfl) rfl rfl rfl ?_
  refine doL_nil ?_
  refine post_rounds ?_
  refine doR_succ ?_
  refine doC_seq ?_
  refine doC_seq ?_
  refine doC_region ?_
  refine doL_v (opV_move rfl) rfl rfl rfl ?_
  refine doL_v (opV_lss rfl rfl) rfl rfl rfl ?_
  refine doL_nil ?_
  refine post_then ?_
  refine doC_cond_t rfl (by decide) ?_
  refine doC_skip ?_
  refine post_then ?_
  refine doC_seq ?_
  refine doC_block ?_
  refine doC_seq ?_
  refine doC_keep (ks := [2, 7, 8, 9]) rfl ?_
  refine doC_keepH (ks := [7, 8]) rfl ?_
  refine doC_late 11 9 (by repeat (first | exact putP_body | refine putP_then ?_ | refine putP_block ?_)) mo (by kernel_rfl) ?_
  simp only [List.take_succ_cons, List.take_zero, List.drop_succ_cons, List.drop_zero]
  refine doG_v (opV_move rfl) rfl rfl rfl ?_
  refine doG_v (opV_indexAddr ar34 rfl rfl (by first | decide | omega) (by first | decide | omega)) rfl rfl rfl ?_
  refine doG_v (opV_loadA 7 ty23 rfl rfl rfl) rfl rfl rfl ?_
  refine doG_v (opV_move rfl) rfl rfl rfl ?_
  refine doG_v (opV_indexAddr ar34 rfl rfl (by first | decide | omega) (by first | decide | omega)) rfl rfl rfl ?_
  refine doG_v (opV_loadA 8 ty23 rfl rfl rfl) rfl rfl rfl ?_
  refine doG_vg (F := ivB) (opV_call en32 rfl (fun w _ => rMeet _ _ _ _  w)) rfl rfl rfl ?_; intro r47_2 hr47_2
  refine doG_v (opV_move rfl) rfl rfl rfl ?_
  refine doG_v (opV_extract rfl rfl) rfl rfl rfl ?_
  refine doG_v (opV_extract rfl rfl) rfl rfl rfl ?_
  refine doG_alloc ze23 rfl rfl rfl rfl ?_
  refine doG_nil ?_
  refine tail_alloc 10 rfl ?_; intro b10_4
  refine tail_nil ?_
  refine doL_store 10 ty23 rfl rfl rfl rfl rfl rfl rfl rfl ?_
  refine doL_v (opV_assign rfl) rfl rfl rfl ?_
  refine doL_nil ?_
  refine post_then ?_
  refine doC_seq ?_
  refine doC_region ?_
  refine doL_v (opV_move rfl) rfl rfl rfl ?_
  refine doL_v (opV_not rfl) rfl rfl rfl ?_
  refine doL_nil ?_
  refine post_then ?_
  refine doC_cond_f rfl (congrArg not ((congrArg Prod.snd hr47_2).trans ((meet_snd _ _).trans mm.y))) ?_
  refine doC_skip ?_
  refine post_block_normal ?_
  refine post_then ?_
  refine doC_region ?_
  refine doL_v (opV_move rfl) rfl rfl rfl ?_
  refine doL_v (opV_add rfl rfl (by first | exact i64_in ⟨by omega, by omega⟩ | rfl)) rfl rfl rfl ?_
  refine doL_v (opV_assign rfl) rfl rfl rfl ?_
  refine doL_nil ?_
  refine post_rounds ?_
  refine doR_succ ?_
  refine doC_seq ?_
  refine doC_seq ?_
  refine doC_region ?_
  refine doL_v (opV_move rfl) rfl rfl rfl ?_
  refine doL_v (opV_lss rfl rfl) rfl rfl rfl ?_
  refine doL_nil ?_
  refine post_then ?_
  refine doC_cond_t rfl (by decide) ?_
  refine doC_skip ?_
  refine post_then ?_
  refine doC_seq ?_
  refine doC_block ?_
  refine doC_seq ?_
  refine doC_keep (ks := [2, 7, 8, 9]) rfl ?_
  refine doC_keepH (ks := [7, 8]) rfl ?_
  refine doC_late 11 9 (by repeat (first | exact putP_body | refine putP_then ?_ | refine putP_block ?_)) mo (by kernel_rfl) ?_
  simp only [List.take_succ_cons, List.take_zero, List.drop_succ_cons, List.drop_zero]
  refine doG_v (opV_move rfl) rfl rfl rfl ?_
  refine doG_v (opV_indexAddr ar34 rfl rfl (by first | decide | omega) (by first | decide | omega)) rfl rfl rfl ?_
  refine doG_v (opV_loadA 7 ty23 rfl rfl rfl) rfl rfl rfl ?_
  refine doG_v (opV_move rfl) rfl rfl rfl ?_
  refine doG_v (opV_indexAddr ar34 rfl rfl (by first | decide | omega) (by first | decide | omega)) rfl rfl rfl ?_
  refine doG_v (opV_loadA 8 ty23 rfl rfl rfl) rfl rfl rfl ?_
  refine doG_vg (F := ivB) (opV_call en32 rfl (fun w _ => rMeet _ _ _ _  w)) rfl rfl rfl ?_; intro r47_3 hr47_3
  refine doG_v (opV_move rfl) rfl rfl rfl ?_
  refine doG_v (opV_extract rfl rfl) rfl rfl rfl ?_
  refine doG_v (opV_extract rfl rfl) rfl rfl rfl ?_
  refine doG_alloc ze23 rfl rfl rfl rfl ?_
  refine doG_nil ?_
  refine tail_alloc 10 rfl ?_; intro b10_6
  refine tail_nil ?_
  refine doL_store 10 ty23 rfl rfl rfl rfl rfl rfl rfl rfl ?_
  refine doL_v (opV_assign rfl) rfl rfl rfl ?_
  refine doL_nil ?_
  refine post_then ?_
  refine doC_seq ?_
  refine doC_region ?_
  refine doL_v (opV_move rfl) rfl rfl rfl ?_
  refine doL_v (opV_not rfl) rfl rfl rfl ?_
  refine doL_nil ?_
  refine post_then ?_
  refine doC_cond_f rfl (congrArg not ((congrArg Prod.snd hr47_3).trans ((meet_snd _ _).trans mm.z))) ?_
  refine doC_skip ?_
  refine post_block_normal ?_
  refine post_then ?_
  refine doC_region ?_
  refine doL_v (opV_move rfl) rfl rfl rfl ?_
  refine doL_v (opV_add rfl rfl (by first | exact i64_in ⟨by omega, by omega⟩ | rfl)) rfl rfl rfl ?_
  refine doL_v (opV_assign rfl) rfl rfl rfl ?_
  refine doL_nil ?_
  refine post_rounds ?_
  refine doR_succ ?_
  refine doC_seq ?_
  refine doC_seq ?_
  refine doC_region ?_
  refine doL_v (opV_move rfl) rfl rfl rfl ?_
  refine doL_v (opV_lss rfl rfl) rfl rfl rfl ?_
  refine doL_nil ?_
  refine post_then ?_
  refine doC_cond_f rfl (by decide) ?_
  refine doC_exit ?_
  refine post_then_exit ?_
  refine post_then_exit ?_
  refine post_block_exit ?_
  refine post_then ?_
  refine doC_seq ?_
  refine doC_region ?_
  refine doL_vg (F := vB) (opV_call en52 rfl (fun w _ => awake5   w)) rfl rfl rfl ?_; intro r52 hr52
  refine doL_v (opV_assign rfl) rfl rfl rfl ?_
  refine doL_nil ?_
  refine post_then ?_
  refine doC_ret ?_
  refine post_rets (rs := [.tmp 2]) rfl (resC (resIs_tmp rfl) (resN)) (congrArg (vB) (?_ : _ = true))
  exact hr52

end Go.Proofs.Ytonampcmhhhffaa

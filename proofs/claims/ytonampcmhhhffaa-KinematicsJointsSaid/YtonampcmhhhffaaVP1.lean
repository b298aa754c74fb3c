/- What the functions of poses compute. No condition. -/
import Derived.Test.YtonampcmhhhffaaProg
import Derived.Test.YtonampcmhhhffaaVPose
import Derived.Test.YtonampcmhhhffaaVA1
import Derived.Test.YtonampcmhhhffaaVA2
import Derived.Test.YtonampcmhhhffaaVM1
import Derived.Test.YtonampcmhhhffaaVM2
namespace Go.Proofs.Ytonampcmhhhffaa
open Go.Sx
theorem la38 : layoutOf Try.prog 38 = some ([.int .i64 0, .int .i64 0, .int .i64 0], [(0, 1), (1, 1), (2, 1)]) := by kernel_rfl
theorem en35 : Enters Try.prog 35 := enters_of Try.func35 (by kernel_rfl) (by kernel_rfl)
theorem ze63 : zeroIs Try.prog 63 (.agg #[.int .i64 0, .int .i64 0, .int .i64 0, .int .i64 0, .int .i64 0, .int .i64 0, .int .i64 0, .int .i64 0, .int .i64 0, .int .i64 0, .int .i64 0, .int .i64 0, .int .i64 0, .int .i64 0, .int .i64 0, .int .i64 0, .int .i64 0, .int .i64 0, .int .i64 0, .int .i64 0, .int .i64 0, .int .i64 0, .int .i64 0, .int .i64 0]) := by unfold zeroIs; kernel_rfl
theorem en42 : Enters Try.prog 42 := enters_of Try.func42 (by kernel_rfl) (by kernel_rfl)
theorem la63 : layoutOf Try.prog 63 = some ([.int .i64 0, .int .i64 0, .int .i64 0, .int .i64 0, .int .i64 0, .int .i64 0, .int .i64 0, .int .i64 0, .int .i64 0, .int .i64 0, .int .i64 0, .int .i64 0, .int .i64 0, .int .i64 0, .int .i64 0, .int .i64 0, .int .i64 0, .int .i64 0, .int .i64 0, .int .i64 0, .int .i64 0, .int .i64 0, .int .i64 0, .int .i64 0], [(0, 18), (18, 6)]) := by kernel_rfl
theorem ty63 : tyB Try.prog 63 true 24 = true := by kernel_rfl
theorem en36 : Enters Try.prog 36 := enters_of Try.func36 (by kernel_rfl) (by kernel_rfl)
theorem en102 : Enters Try.prog 102 := enters_of Try.func102 (by kernel_rfl) (by kernel_rfl)
theorem en53 : Enters Try.prog 53 := enters_of Try.func53 (by kernel_rfl) (by kernel_rfl)
theorem en24 : Enters Try.prog 24 := enters_of Try.func24 (by kernel_rfl) (by kernel_rfl)
theorem en25 : Enters Try.prog 25 := enters_of Try.func25 (by kernel_rfl) (by kernel_rfl)
theorem fa63_1 : fieldB Try.prog 63 1 18 = true := by kernel_rfl
theorem fa63_0 : fieldB Try.prog 63 0 0 = true := by kernel_rfl
theorem en29 : Enters Try.prog 29 := enters_of Try.func29 (by kernel_rfl) (by kernel_rfl)
theorem en47 : Enters Try.prog 47 := enters_of Try.func47 (by kernel_rfl) (by kernel_rfl)
theorem en97 : Enters Try.prog 97 := enters_of Try.func97 (by kernel_rfl) (by kernel_rfl)
theorem en34 : Enters Try.prog 34 := enters_of Try.func34 (by kernel_rfl) (by kernel_rfl)
theorem en127 : Enters Try.prog 127 := enters_of Try.func127 (by kernel_rfl) (by kernel_rfl)
theorem en92 : Enters Try.prog 92 := enters_of Try.func92 (by kernel_rfl) (by kernel_rfl)
theorem en90 : Enters Try.prog 90 := enters_of Try.func90 (by kernel_rfl) (by kernel_rfl)
theorem en55 : Enters Try.prog 55 := enters_of Try.func55 (by kernel_rfl) (by kernel_rfl)
theorem en41 : Enters Try.prog 41 := enters_of Try.func41 (by kernel_rfl) (by kernel_rfl)
theorem en93 : Enters Try.prog 93 := enters_of Try.func93 (by kernel_rfl) (by kernel_rfl)
theorem en40 : Enters Try.prog 40 := enters_of Try.func40 (by kernel_rfl) (by kernel_rfl)
theorem en94 : Enters Try.prog 94 := enters_of Try.func94 (by kernel_rfl) (by kernel_rfl)

theorem pStill  (w : World) : Calls Try.prog 102 [].toArray w (Rets (v3 (V3.zero)) (w)) := by
  refine calls_of_doC (n := 3) Try.func102 rfl rfl rfl ?_
  refine doC_seq ?_
  refine doC_region ?_
  refine doL_alloc 0 ze34 rfl rfl rfl ?_; intro b0
  refine doL_nil ?_
  refine post_then ?_
  refine doC_seq ?_
  refine doC_region ?_
  refine doL_v (opV_build la38 rfl rfl) rfl rfl rfl ?_
  refine doL_vg (F := v3) (opV_call en35 rfl (fun w _ => mPoint _ _ _  w)) rfl rfl rfl ?_; intro r2 hr2
  refine doL_store 0 ty34 rfl rfl rfl rfl rfl rfl rfl rfl ?_
  refine doL_nil ?_
  refine post_then ?_
  refine doC_ret ?_
  refine post_rets (rs := [.cell 0 34]) rfl (resC (resIs_cell 0 rfl rfl ty34 rfl) (resN)) (congrArg (v3) (?_ : ⟨⟨_, _⟩, ⟨_, _⟩, ⟨_, _⟩⟩ = V3.zero))
  subst_vars; rfl

theorem pShift (va0 va1 va2 va3 va4 va5 : Int) (w : World) : Calls Try.prog 53 [.agg #[.int .i64 va0, .int .i64 va1, .int .i64 va2, .int .i64 va3, .int .i64 va4, .int .i64 va5]].toArray w (Rets (po (Po.shift (⟨⟨va0, va1⟩, ⟨va2, va3⟩, ⟨va4, va5⟩⟩ : V3))) (w)) := by
  refine calls_of_doC (n := 6) Try.func53 rfl rfl rfl ?_
  refine doC_seq ?_
  refine doC_region ?_
  refine doL_box 1 rfl rfl rfl rfl ?_; intro b1
  refine doL_alloc 2 ze63 rfl rfl rfl ?_; intro b2
  refine doL_nil ?_
  refine post_then ?_
  refine doC_seq ?_
  refine doC_drawn 3 mo (by kernel_rfl) ?_
  simp only [List.take_succ_cons, List.take_zero, List.drop_succ_cons, List.drop_zero]
  refine doG_vg (F := m3) (opV_call en42 rfl (fun w _ => mIdentity   w)) rfl rfl rfl ?_; intro r3 hr3
  refine doG_v (opV_loadA 1 ty34 rfl rfl rfl) rfl rfl rfl ?_
  refine doG_v (opV_build la63 rfl rfl) rfl rfl rfl ?_
  refine doG_nil ?_
  refine tail_nil ?_
  refine doL_store 2 ty63 rfl rfl rfl rfl rfl rfl rfl rfl ?_
  refine doL_nil ?_
  refine post_then ?_
  refine doC_ret ?_
  refine post_rets (rs := [.cell 2 63]) rfl (resC (resIs_cell 2 rfl rfl ty63 rfl) (resN)) (congrArg (po) (?_ : ⟨⟨⟨⟨_, _⟩, ⟨_, _⟩, ⟨_, _⟩⟩, ⟨⟨_, _⟩, ⟨_, _⟩, ⟨_, _⟩⟩, ⟨⟨_, _⟩, ⟨_, _⟩, ⟨_, _⟩⟩⟩, ⟨⟨_, _⟩, ⟨_, _⟩, ⟨_, _⟩⟩⟩ = Po.shift (⟨⟨va0, va1⟩, ⟨va2, va3⟩, ⟨va4, va5⟩⟩ : V3)))
  subst_vars; rfl

theorem qShift (va0 va1 va2 va3 va4 va5 : Int) (w : World) : Calls Try.prog 54 [.agg #[.int .i64 va0, .int .i64 va1, .int .i64 va2, .int .i64 va3, .int .i64 va4, .int .i64 va5]].toArray w (Rets (po (Po.shift (⟨⟨va0, va1⟩, ⟨va2, va3⟩, ⟨va4, va5⟩⟩ : V3))) (w)) := by
  refine calls_of_doC (n := 6) Try.func54 rfl rfl rfl ?_
  refine doC_seq ?_
  refine doC_region ?_
  refine doL_box 1 rfl rfl rfl rfl ?_; intro b1
  refine doL_alloc 2 ze63 rfl rfl rfl ?_; intro b2
  refine doL_nil ?_
  refine post_then ?_
  refine doC_seq ?_
  refine doC_drawn 3 mo (by kernel_rfl) ?_
  simp only [List.take_succ_cons, List.take_zero, List.drop_succ_cons, List.drop_zero]
  refine doG_vg (F := m3) (opV_call en36 rfl (fun w _ => rUnit   w)) rfl rfl rfl ?_; intro r3 hr3
  refine doG_v (opV_loadA 1 ty34 rfl rfl rfl) rfl rfl rfl ?_
  refine doG_v (opV_build la63 rfl rfl) rfl rfl rfl ?_
  refine doG_nil ?_
  refine tail_nil ?_
  refine doL_store 2 ty63 rfl rfl rfl rfl rfl rfl rfl rfl ?_
  refine doL_nil ?_
  refine post_then ?_
  refine doC_ret ?_
  refine post_rets (rs := [.cell 2 63]) rfl (resC (resIs_cell 2 rfl rfl ty63 rfl) (resN)) (congrArg (po) (?_ : ⟨⟨⟨⟨_, _⟩, ⟨_, _⟩, ⟨_, _⟩⟩, ⟨⟨_, _⟩, ⟨_, _⟩, ⟨_, _⟩⟩, ⟨⟨_, _⟩, ⟨_, _⟩, ⟨_, _⟩⟩⟩, ⟨⟨_, _⟩, ⟨_, _⟩, ⟨_, _⟩⟩⟩ = Po.shift (⟨⟨va0, va1⟩, ⟨va2, va3⟩, ⟨va4, va5⟩⟩ : V3)))
  subst_vars; rfl

theorem pIdentity  (w : World) : Calls Try.prog 61 [].toArray w (Rets (po (Po.rest)) (w)) := by
  refine calls_of_doC (n := 3) Try.func61 rfl rfl rfl ?_
  refine doC_seq ?_
  refine doC_region ?_
  refine doL_alloc 0 ze63 rfl rfl rfl ?_; intro b0
  refine doL_nil ?_
  refine post_then ?_
  refine doC_seq ?_
  refine doC_region ?_
  refine doL_vg (F := v3) (opV_call en102 rfl (fun w _ => pStill   w)) rfl rfl rfl ?_; intro r1 hr1
  refine doL_vg (F := po) (opV_call en53 rfl (fun w _ => pShift _ _ _ _ _ _  w)) rfl rfl rfl ?_; intro r2 hr2
  refine doL_store 0 ty63 rfl rfl rfl rfl rfl rfl rfl rfl ?_
  refine doL_nil ?_
  refine post_then ?_
  refine doC_ret ?_
  refine post_rets (rs := [.cell 0 63]) rfl (resC (resIs_cell 0 rfl rfl ty63 rfl) (resN)) (congrArg (po) (?_ : ⟨⟨⟨⟨_, _⟩, ⟨_, _⟩, ⟨_, _⟩⟩, ⟨⟨_, _⟩, ⟨_, _⟩, ⟨_, _⟩⟩, ⟨⟨_, _⟩, ⟨_, _⟩, ⟨_, _⟩⟩⟩, ⟨⟨_, _⟩, ⟨_, _⟩, ⟨_, _⟩⟩⟩ = Po.rest))
  subst_vars; rfl

theorem qRest  (w : World) : Calls Try.prog 62 [].toArray w (Rets (po (Po.rest)) (w)) := by
  refine calls_of_doC (n := 3) Try.func62 rfl rfl rfl ?_
  refine doC_seq ?_
  refine doC_region ?_
  refine doL_alloc 0 ze63 rfl rfl rfl ?_; intro b0
  refine doL_nil ?_
  refine post_then ?_
  refine doC_seq ?_
  refine doC_region ?_
  refine doL_vg (F := m3) (opV_call en36 rfl (fun w _ => rUnit   w)) rfl rfl rfl ?_; intro r1 hr1
  refine doL_v (opV_build la63 rfl rfl) rfl rfl rfl ?_
  refine doL_store 0 ty63 rfl rfl rfl rfl rfl rfl rfl rfl ?_
  refine doL_nil ?_
  refine post_then ?_
  refine doC_ret ?_
  refine post_rets (rs := [.cell 0 63]) rfl (resC (resIs_cell 0 rfl rfl ty63 rfl) (resN)) (congrArg (po) (?_ : ⟨⟨⟨⟨_, _⟩, ⟨_, _⟩, ⟨_, _⟩⟩, ⟨⟨_, _⟩, ⟨_, _⟩, ⟨_, _⟩⟩, ⟨⟨_, _⟩, ⟨_, _⟩, ⟨_, _⟩⟩⟩, ⟨⟨_, _⟩, ⟨_, _⟩, ⟨_, _⟩⟩⟩ = Po.rest))
  subst_vars; rfl

theorem pTurn (axis : Int) (a0 a1 : Int) (w : World) : Calls Try.prog 63 [.int .i64 axis, .agg #[.int .i64 a0, .int .i64 a1]].toArray w (Rets (po (Po.turn axis (⟨a0, a1⟩ : Iv))) (w)) := by
  refine calls_of_doC (n := 10) Try.func63 rfl rfl rfl ?_
  refine doC_seq ?_
  refine doC_region ?_
  refine doL_box 3 rfl rfl rfl rfl ?_; intro b3
  refine doL_alloc 4 ze63 rfl rfl rfl ?_; intro b4
  refine doL_nil ?_
  refine post_then ?_
  refine doC_seq ?_
  refine doC_region ?_
  refine doL_v (opV_move rfl) rfl rfl rfl ?_
  refine doL_v (opV_loadA 3 ty23 rfl rfl rfl) rfl rfl rfl ?_
  refine doL_vg (F := m3) (opV_call en24 rfl (fun w _ => mTurn _ _ _  w)) rfl rfl rfl ?_; intro r7 hr7
  refine doL_vg (F := v3) (opV_call en102 rfl (fun w _ => pStill   w)) rfl rfl rfl ?_; intro r8 hr8
  refine doL_v (opV_build la63 rfl rfl) rfl rfl rfl ?_
  refine doL_store 4 ty63 rfl rfl rfl rfl rfl rfl rfl rfl ?_
  refine doL_nil ?_
  refine post_then ?_
  refine doC_ret ?_
  refine post_rets (rs := [.cell 4 63]) rfl (resC (resIs_cell 4 rfl rfl ty63 rfl) (resN)) (congrArg (po) (?_ : ⟨⟨⟨⟨_, _⟩, ⟨_, _⟩, ⟨_, _⟩⟩, ⟨⟨_, _⟩, ⟨_, _⟩, ⟨_, _⟩⟩, ⟨⟨_, _⟩, ⟨_, _⟩, ⟨_, _⟩⟩⟩, ⟨⟨_, _⟩, ⟨_, _⟩, ⟨_, _⟩⟩⟩ = Po.turn axis (⟨a0, a1⟩ : Iv)))
  subst_vars; rfl

theorem qTurn (axis : Int) (a0 a1 : Int) (w : World) : Calls Try.prog 64 [.int .i64 axis, .agg #[.int .i64 a0, .int .i64 a1]].toArray w (Rets (po (Po.turn axis (⟨a0, a1⟩ : Iv))) (w)) := by
  refine calls_of_doC (n := 9) Try.func64 rfl rfl rfl ?_
  refine doC_seq ?_
  refine doC_region ?_
  refine doL_box 3 rfl rfl rfl rfl ?_; intro b3
  refine doL_alloc 4 ze63 rfl rfl rfl ?_; intro b4
  refine doL_nil ?_
  refine post_then ?_
  refine doC_seq ?_
  refine doC_region ?_
  refine doL_v (opV_move rfl) rfl rfl rfl ?_
  refine doL_v (opV_loadA 3 ty23 rfl rfl rfl) rfl rfl rfl ?_
  refine doL_vg (F := m3) (opV_call en25 rfl (fun w _ => rTurn _ _ _  w)) rfl rfl rfl ?_; intro r7 hr7
  refine doL_v (opV_build la63 rfl rfl) rfl rfl rfl ?_
  refine doL_store 4 ty63 rfl rfl rfl rfl rfl rfl rfl rfl ?_
  refine doL_nil ?_
  refine post_then ?_
  refine doC_ret ?_
  refine post_rets (rs := [.cell 4 63]) rfl (resC (resIs_cell 4 rfl rfl ty63 rfl) (resN)) (congrArg (po) (?_ : ⟨⟨⟨⟨_, _⟩, ⟨_, _⟩, ⟨_, _⟩⟩, ⟨⟨_, _⟩, ⟨_, _⟩, ⟨_, _⟩⟩, ⟨⟨_, _⟩, ⟨_, _⟩, ⟨_, _⟩⟩⟩, ⟨⟨_, _⟩, ⟨_, _⟩, ⟨_, _⟩⟩⟩ = Po.turn axis (⟨a0, a1⟩ : Iv)))
  subst_vars; rfl

theorem pMover (pa0 pa1 pa2 pa3 pa4 pa5 pa6 pa7 pa8 pa9 pa10 pa11 pa12 pa13 pa14 pa15 pa16 pa17 pa18 pa19 pa20 pa21 pa22 pa23 : Int) (w : World) : Calls Try.prog 97 [.agg #[.int .i64 pa0, .int .i64 pa1, .int .i64 pa2, .int .i64 pa3, .int .i64 pa4, .int .i64 pa5, .int .i64 pa6, .int .i64 pa7, .int .i64 pa8, .int .i64 pa9, .int .i64 pa10, .int .i64 pa11, .int .i64 pa12, .int .i64 pa13, .int .i64 pa14, .int .i64 pa15, .int .i64 pa16, .int .i64 pa17, .int .i64 pa18, .int .i64 pa19, .int .i64 pa20, .int .i64 pa21, .int .i64 pa22, .int .i64 pa23]].toArray w (RetsT (NewF w (fun b => .func (.func 127) #[] #[.pointer (some ⟨b, 0, none⟩)]) [.int .i64 pa0, .int .i64 pa1, .int .i64 pa2, .int .i64 pa3, .int .i64 pa4, .int .i64 pa5, .int .i64 pa6, .int .i64 pa7, .int .i64 pa8, .int .i64 pa9, .int .i64 pa10, .int .i64 pa11, .int .i64 pa12, .int .i64 pa13, .int .i64 pa14, .int .i64 pa15, .int .i64 pa16, .int .i64 pa17, .int .i64 pa18, .int .i64 pa19, .int .i64 pa20, .int .i64 pa21, .int .i64 pa22, .int .i64 pa23] 63) w) := by
  refine calls_of_doC (n := 4) Try.func97 rfl rfl rfl ?_
  refine doC_seq ?_
  refine doC_region ?_
  refine doL_box 1 rfl rfl rfl rfl ?_; intro b1
  refine doL_v (opV_assign rfl) rfl rfl rfl ?_
  refine doL_nil ?_
  refine post_then ?_
  refine doC_seq ?_
  refine doC_region ?_
  refine doL_v (opV_makeFunc rfl rfl) rfl rfl rfl ?_
  refine doL_v (opV_assign rfl) rfl rfl rfl ?_
  refine doL_nil ?_
  refine post_then ?_
  refine doC_ret ?_
  refine post_ret (rs := [.tmp 2]) rfl (resC (resIs_tmp rfl) (resN)) rfl ?_
  intro w2 k
  exact ⟨_, rfl, k.grow, _, rfl, (k.at (i := 1) rfl).1, (k.at (i := 1) rfl).2⟩

theorem pMove (va0 va1 va2 va3 va4 va5 : Int) (b : Nat) (pa0 pa1 pa2 pa3 pa4 pa5 pa6 pa7 pa8 pa9 pa10 pa11 pa12 pa13 pa14 pa15 pa16 pa17 pa18 pa19 pa20 pa21 pa22 pa23 : Int) (w : World) (hb : w.heap[b]? = some (.cells [.int .i64 pa0, .int .i64 pa1, .int .i64 pa2, .int .i64 pa3, .int .i64 pa4, .int .i64 pa5, .int .i64 pa6, .int .i64 pa7, .int .i64 pa8, .int .i64 pa9, .int .i64 pa10, .int .i64 pa11, .int .i64 pa12, .int .i64 pa13, .int .i64 pa14, .int .i64 pa15, .int .i64 pa16, .int .i64 pa17, .int .i64 pa18, .int .i64 pa19, .int .i64 pa20, .int .i64 pa21, .int .i64 pa22, .int .i64 pa23].toArray 63)) : Calls Try.prog 127 [.agg #[.int .i64 va0, .int .i64 va1, .int .i64 va2, .int .i64 va3, .int .i64 va4, .int .i64 va5], .pointer (some ⟨b, 0, none⟩)].toArray w (Rets (v3 (V3.add (Po.t ⟨⟨⟨⟨pa0, pa1⟩, ⟨pa2, pa3⟩, ⟨pa4, pa5⟩⟩, ⟨⟨pa6, pa7⟩, ⟨pa8, pa9⟩, ⟨pa10, pa11⟩⟩, ⟨⟨pa12, pa13⟩, ⟨pa14, pa15⟩, ⟨pa16, pa17⟩⟩⟩, ⟨⟨pa18, pa19⟩, ⟨pa20, pa21⟩, ⟨pa22, pa23⟩⟩⟩) (M3.apply (Po.r ⟨⟨⟨⟨pa0, pa1⟩, ⟨pa2, pa3⟩, ⟨pa4, pa5⟩⟩, ⟨⟨pa6, pa7⟩, ⟨pa8, pa9⟩, ⟨pa10, pa11⟩⟩, ⟨⟨pa12, pa13⟩, ⟨pa14, pa15⟩, ⟨pa16, pa17⟩⟩⟩, ⟨⟨pa18, pa19⟩, ⟨pa20, pa21⟩, ⟨pa22, pa23⟩⟩⟩) (⟨⟨va0, va1⟩, ⟨va2, va3⟩, ⟨va4, va5⟩⟩ : V3)))) (w)) := by
  refine calls_of_doC (n := 11) Try.func127 rfl rfl rfl ?_
  refine doC_seq ?_
  refine doC_region ?_
  refine doL_box 2 rfl rfl rfl rfl ?_; intro b2
  refine doL_alloc 3 ze34 rfl rfl rfl ?_; intro b3
  refine doL_nil ?_
  refine post_then ?_
  refine doC_seq ?_
  refine doC_drawn 7 mo (by kernel_rfl) ?_
  simp only [List.take_succ_cons, List.take_zero, List.drop_succ_cons, List.drop_zero]
  refine doG_v (opV_fieldAddr fa63_1 rfl) rfl rfl rfl ?_
  refine doG_v (opV_loadA_blk hb ty34 rfl rfl) rfl rfl rfl ?_
  refine doG_v (opV_fieldAddr fa63_0 rfl) rfl rfl rfl ?_
  refine doG_v (opV_loadA_blk hb ty28 rfl rfl) rfl rfl rfl ?_
  refine doG_v (opV_loadA 2 ty34 rfl rfl rfl) rfl rfl rfl ?_
  refine doG_vg (F := v3) (opV_call en29 rfl (fun w _ => mApply _ _ _ _ _ _ _ _ _ _ _ _ _ _ _ _ _ _ _ _ _ _ _ _  w)) rfl rfl rfl ?_; intro r9 hr9
  refine doG_vg (F := v3) (opV_call en47 rfl (fun w _ => mAdd _ _ _ _ _ _ _ _ _ _ _ _  w)) rfl rfl rfl ?_; intro r10 hr10
  refine doG_nil ?_
  refine tail_nil ?_
  refine doL_store 3 ty34 rfl rfl rfl rfl rfl rfl rfl rfl ?_
  refine doL_nil ?_
  refine post_then ?_
  refine doC_ret ?_
  refine post_rets (rs := [.cell 3 34]) rfl (resC (resIs_cell 3 rfl rfl ty34 rfl) (resN)) (congrArg (v3) (?_ : ⟨⟨_, _⟩, ⟨_, _⟩, ⟨_, _⟩⟩ = V3.add (Po.t ⟨⟨⟨⟨pa0, pa1⟩, ⟨pa2, pa3⟩, ⟨pa4, pa5⟩⟩, ⟨⟨pa6, pa7⟩, ⟨pa8, pa9⟩, ⟨pa10, pa11⟩⟩, ⟨⟨pa12, pa13⟩, ⟨pa14, pa15⟩, ⟨pa16, pa17⟩⟩⟩, ⟨⟨pa18, pa19⟩, ⟨pa20, pa21⟩, ⟨pa22, pa23⟩⟩⟩) (M3.apply (Po.r ⟨⟨⟨⟨pa0, pa1⟩, ⟨pa2, pa3⟩, ⟨pa4, pa5⟩⟩, ⟨⟨pa6, pa7⟩, ⟨pa8, pa9⟩, ⟨pa10, pa11⟩⟩, ⟨⟨pa12, pa13⟩, ⟨pa14, pa15⟩, ⟨pa16, pa17⟩⟩⟩, ⟨⟨pa18, pa19⟩, ⟨pa20, pa21⟩, ⟨pa22, pa23⟩⟩⟩) (⟨⟨va0, va1⟩, ⟨va2, va3⟩, ⟨va4, va5⟩⟩ : V3))))
  subst_vars; rfl

theorem pCompose (pa0 pa1 pa2 pa3 pa4 pa5 pa6 pa7 pa8 pa9 pa10 pa11 pa12 pa13 pa14 pa15 pa16 pa17 pa18 pa19 pa20 pa21 pa22 pa23 : Int) (qa0 qa1 qa2 qa3 qa4 qa5 qa6 qa7 qa8 qa9 qa10 qa11 qa12 qa13 qa14 qa15 qa16 qa17 qa18 qa19 qa20 qa21 qa22 qa23 : Int) (w : World) : Calls Try.prog 51 [.agg #[.int .i64 pa0, .int .i64 pa1, .int .i64 pa2, .int .i64 pa3, .int .i64 pa4, .int .i64 pa5, .int .i64 pa6, .int .i64 pa7, .int .i64 pa8, .int .i64 pa9, .int .i64 pa10, .int .i64 pa11, .int .i64 pa12, .int .i64 pa13, .int .i64 pa14, .int .i64 pa15, .int .i64 pa16, .int .i64 pa17, .int .i64 pa18, .int .i64 pa19, .int .i64 pa20, .int .i64 pa21, .int .i64 pa22, .int .i64 pa23], .agg #[.int .i64 qa0, .int .i64 qa1, .int .i64 qa2, .int .i64 qa3, .int .i64 qa4, .int .i64 qa5, .int .i64 qa6, .int .i64 qa7, .int .i64 qa8, .int .i64 qa9, .int .i64 qa10, .int .i64 qa11, .int .i64 qa12, .int .i64 qa13, .int .i64 qa14, .int .i64 qa15, .int .i64 qa16, .int .i64 qa17, .int .i64 qa18, .int .i64 qa19, .int .i64 qa20, .int .i64 qa21, .int .i64 qa22, .int .i64 qa23]].toArray w (Rets (po (Po.mul (⟨⟨⟨⟨pa0, pa1⟩, ⟨pa2, pa3⟩, ⟨pa4, pa5⟩⟩, ⟨⟨pa6, pa7⟩, ⟨pa8, pa9⟩, ⟨pa10, pa11⟩⟩, ⟨⟨pa12, pa13⟩, ⟨pa14, pa15⟩, ⟨pa16, pa17⟩⟩⟩, ⟨⟨pa18, pa19⟩, ⟨pa20, pa21⟩, ⟨pa22, pa23⟩⟩⟩ : Po) (⟨⟨⟨⟨qa0, qa1⟩, ⟨qa2, qa3⟩, ⟨qa4, qa5⟩⟩, ⟨⟨qa6, qa7⟩, ⟨qa8, qa9⟩, ⟨qa10, qa11⟩⟩, ⟨⟨qa12, qa13⟩, ⟨qa14, qa15⟩, ⟨qa16, qa17⟩⟩⟩, ⟨⟨qa18, qa19⟩, ⟨qa20, qa21⟩, ⟨qa22, qa23⟩⟩⟩ : Po))) (w)) := by
  refine calls_of_doC (n := 18) Try.func51 rfl rfl rfl ?_
  refine doC_seq ?_
  refine doC_region ?_
  refine doL_box 2 rfl rfl rfl rfl ?_; intro b2
  refine doL_box 3 rfl rfl rfl rfl ?_; intro b3
  refine doL_alloc 4 ze63 rfl rfl rfl ?_; intro b4
  refine doL_nil ?_
  refine post_then ?_
  refine doC_seq ?_
  refine doC_region ?_
  refine doL_v (opV_loadA 2 ty63 rfl rfl rfl) rfl rfl rfl ?_
  refine doL_callNewF 7 en97 rfl (fun w' _ => pMover _ _ _ _ _ _ _ _ _ _ _ _ _ _ _ _ _ _ _ _ _ _ _ _ w') rfl rfl ?_; intro b7
  refine doL_v (opV_assign rfl) rfl rfl rfl ?_
  refine doL_nil ?_
  refine post_then ?_
  refine doC_seq ?_
  refine doC_drawn 10 mo (by kernel_rfl) ?_
  simp only [List.take_succ_cons, List.take_zero, List.drop_succ_cons, List.drop_zero]
  refine doG_v (opV_fieldAddr fa63_0 rfl) rfl rfl rfl ?_
  refine doG_v (opV_loadA 2 ty28 rfl rfl rfl) rfl rfl rfl ?_
  refine doG_v (opV_fieldAddr fa63_0 rfl) rfl rfl rfl ?_
  refine doG_v (opV_loadA 3 ty28 rfl rfl rfl) rfl rfl rfl ?_
  refine doG_vg (F := m3) (opV_call en34 rfl (fun w _ => mCompose _ _ _ _ _ _ _ _ _ _ _ _ _ _ _ _ _ _ _ _ _ _ _ _ _ _ _ _ _ _ _ _ _ _ _ _  w)) rfl rfl rfl ?_; intro r12 hr12
  refine doG_v (opV_move rfl) rfl rfl rfl ?_
  refine doG_v (opV_fieldAddr fa63_1 rfl) rfl rfl rfl ?_
  refine doG_v (opV_loadA 3 ty34 rfl rfl rfl) rfl rfl rfl ?_
  refine doG_vg (F := v3) (opV_callV en127 rfl rfl rfl (fun w k => pMove _ _ _ _ _ _ _ _ _ _ _ _ _ _ _ _ _ _ _ _ _ _ _ _ _ _ _ _ _ _ _ w (k.at (i := 7) rfl).2)) rfl rfl rfl ?_; intro r16 hr16
  refine doG_v (opV_build la63 rfl rfl) rfl rfl rfl ?_
  refine doG_nil ?_
  refine tail_nil ?_
  refine doL_store 4 ty63 rfl rfl rfl rfl rfl rfl rfl rfl ?_
  refine doL_nil ?_
  refine post_then ?_
  refine doC_ret ?_
  refine post_rets (rs := [.cell 4 63]) rfl (resC (resIs_cell 4 rfl rfl ty63 rfl) (resN)) (congrArg (po) (?_ : ⟨⟨⟨⟨_, _⟩, ⟨_, _⟩, ⟨_, _⟩⟩, ⟨⟨_, _⟩, ⟨_, _⟩, ⟨_, _⟩⟩, ⟨⟨_, _⟩, ⟨_, _⟩, ⟨_, _⟩⟩⟩, ⟨⟨_, _⟩, ⟨_, _⟩, ⟨_, _⟩⟩⟩ = Po.mul (⟨⟨⟨⟨pa0, pa1⟩, ⟨pa2, pa3⟩, ⟨pa4, pa5⟩⟩, ⟨⟨pa6, pa7⟩, ⟨pa8, pa9⟩, ⟨pa10, pa11⟩⟩, ⟨⟨pa12, pa13⟩, ⟨pa14, pa15⟩, ⟨pa16, pa17⟩⟩⟩, ⟨⟨pa18, pa19⟩, ⟨pa20, pa21⟩, ⟨pa22, pa23⟩⟩⟩ : Po) (⟨⟨⟨⟨qa0, qa1⟩, ⟨qa2, qa3⟩, ⟨qa4, qa5⟩⟩, ⟨⟨qa6, qa7⟩, ⟨qa8, qa9⟩, ⟨qa10, qa11⟩⟩, ⟨⟨qa12, qa13⟩, ⟨qa14, qa15⟩, ⟨qa16, qa17⟩⟩⟩, ⟨⟨qa18, qa19⟩, ⟨qa20, qa21⟩, ⟨qa22, qa23⟩⟩⟩ : Po)))
  subst_vars; rfl

theorem qCompose (pa0 pa1 pa2 pa3 pa4 pa5 pa6 pa7 pa8 pa9 pa10 pa11 pa12 pa13 pa14 pa15 pa16 pa17 pa18 pa19 pa20 pa21 pa22 pa23 : Int) (qa0 qa1 qa2 qa3 qa4 qa5 qa6 qa7 qa8 qa9 qa10 qa11 qa12 qa13 qa14 qa15 qa16 qa17 qa18 qa19 qa20 qa21 qa22 qa23 : Int) (w : World) : Calls Try.prog 65 [.agg #[.int .i64 pa0, .int .i64 pa1, .int .i64 pa2, .int .i64 pa3, .int .i64 pa4, .int .i64 pa5, .int .i64 pa6, .int .i64 pa7, .int .i64 pa8, .int .i64 pa9, .int .i64 pa10, .int .i64 pa11, .int .i64 pa12, .int .i64 pa13, .int .i64 pa14, .int .i64 pa15, .int .i64 pa16, .int .i64 pa17, .int .i64 pa18, .int .i64 pa19, .int .i64 pa20, .int .i64 pa21, .int .i64 pa22, .int .i64 pa23], .agg #[.int .i64 qa0, .int .i64 qa1, .int .i64 qa2, .int .i64 qa3, .int .i64 qa4, .int .i64 qa5, .int .i64 qa6, .int .i64 qa7, .int .i64 qa8, .int .i64 qa9, .int .i64 qa10, .int .i64 qa11, .int .i64 qa12, .int .i64 qa13, .int .i64 qa14, .int .i64 qa15, .int .i64 qa16, .int .i64 qa17, .int .i64 qa18, .int .i64 qa19, .int .i64 qa20, .int .i64 qa21, .int .i64 qa22, .int .i64 qa23]].toArray w (Rets (po (Po.mul (⟨⟨⟨⟨pa0, pa1⟩, ⟨pa2, pa3⟩, ⟨pa4, pa5⟩⟩, ⟨⟨pa6, pa7⟩, ⟨pa8, pa9⟩, ⟨pa10, pa11⟩⟩, ⟨⟨pa12, pa13⟩, ⟨pa14, pa15⟩, ⟨pa16, pa17⟩⟩⟩, ⟨⟨pa18, pa19⟩, ⟨pa20, pa21⟩, ⟨pa22, pa23⟩⟩⟩ : Po) (⟨⟨⟨⟨qa0, qa1⟩, ⟨qa2, qa3⟩, ⟨qa4, qa5⟩⟩, ⟨⟨qa6, qa7⟩, ⟨qa8, qa9⟩, ⟨qa10, qa11⟩⟩, ⟨⟨qa12, qa13⟩, ⟨qa14, qa15⟩, ⟨qa16, qa17⟩⟩⟩, ⟨⟨qa18, qa19⟩, ⟨qa20, qa21⟩, ⟨qa22, qa23⟩⟩⟩ : Po))) (w)) := by
  refine calls_of_doC (n := 19) Try.func65 rfl rfl rfl ?_
  refine doC_seq ?_
  refine doC_region ?_
  refine doL_box 2 rfl rfl rfl rfl ?_; intro b2
  refine doL_box 3 rfl rfl rfl rfl ?_; intro b3
  refine doL_alloc 4 ze63 rfl rfl rfl ?_; intro b4
  refine doL_nil ?_
  refine post_then ?_
  refine doC_seq ?_
  refine doC_drawn 14 mo (by kernel_rfl) ?_
  simp only [List.take_succ_cons, List.take_zero, List.drop_succ_cons, List.drop_zero]
  refine doG_v (opV_fieldAddr fa63_0 rfl) rfl rfl rfl ?_
  refine doG_v (opV_loadA 2 ty28 rfl rfl rfl) rfl rfl rfl ?_
  refine doG_v (opV_fieldAddr fa63_0 rfl) rfl rfl rfl ?_
  refine doG_v (opV_loadA 3 ty28 rfl rfl rfl) rfl rfl rfl ?_
  refine doG_vg (F := m3) (opV_call en92 rfl (fun w _ => rCompose _ _ _ _ _ _ _ _ _ _ _ _ _ _ _ _ _ _ _ _ _ _ _ _ _ _ _ _ _ _ _ _ _ _ _ _  w)) rfl rfl rfl ?_; intro r9 hr9
  refine doG_v (opV_fieldAddr fa63_1 rfl) rfl rfl rfl ?_
  refine doG_v (opV_loadA 2 ty34 rfl rfl rfl) rfl rfl rfl ?_
  refine doG_v (opV_fieldAddr fa63_0 rfl) rfl rfl rfl ?_
  refine doG_v (opV_loadA 2 ty28 rfl rfl rfl) rfl rfl rfl ?_
  refine doG_v (opV_fieldAddr fa63_1 rfl) rfl rfl rfl ?_
  refine doG_v (opV_loadA 3 ty34 rfl rfl rfl) rfl rfl rfl ?_
  refine doG_vg (F := v3) (opV_call en90 rfl (fun w _ => rApply _ _ _ _ _ _ _ _ _ _ _ _ _ _ _ _ _ _ _ _ _ _ _ _  w)) rfl rfl rfl ?_; intro r16 hr16
  refine doG_vg (F := v3) (opV_call en55 rfl (fun w _ => rAddVec _ _ _ _ _ _ _ _ _ _ _ _  w)) rfl rfl rfl ?_; intro r17 hr17
  refine doG_v (opV_build la63 rfl rfl) rfl rfl rfl ?_
  refine doG_nil ?_
  refine tail_nil ?_
  refine doL_store 4 ty63 rfl rfl rfl rfl rfl rfl rfl rfl ?_
  refine doL_nil ?_
  refine post_then ?_
  refine doC_ret ?_
  refine post_rets (rs := [.cell 4 63]) rfl (resC (resIs_cell 4 rfl rfl ty63 rfl) (resN)) (congrArg (po) (?_ : ⟨⟨⟨⟨_, _⟩, ⟨_, _⟩, ⟨_, _⟩⟩, ⟨⟨_, _⟩, ⟨_, _⟩, ⟨_, _⟩⟩, ⟨⟨_, _⟩, ⟨_, _⟩, ⟨_, _⟩⟩⟩, ⟨⟨_, _⟩, ⟨_, _⟩, ⟨_, _⟩⟩⟩ = Po.mul (⟨⟨⟨⟨pa0, pa1⟩, ⟨pa2, pa3⟩, ⟨pa4, pa5⟩⟩, ⟨⟨pa6, pa7⟩, ⟨pa8, pa9⟩, ⟨pa10, pa11⟩⟩, ⟨⟨pa12, pa13⟩, ⟨pa14, pa15⟩, ⟨pa16, pa17⟩⟩⟩, ⟨⟨pa18, pa19⟩, ⟨pa20, pa21⟩, ⟨pa22, pa23⟩⟩⟩ : Po) (⟨⟨⟨⟨qa0, qa1⟩, ⟨qa2, qa3⟩, ⟨qa4, qa5⟩⟩, ⟨⟨qa6, qa7⟩, ⟨qa8, qa9⟩, ⟨qa10, qa11⟩⟩, ⟨⟨qa12, qa13⟩, ⟨qa14, qa15⟩, ⟨qa16, qa17⟩⟩⟩, ⟨⟨qa18, qa19⟩, ⟨qa20, qa21⟩, ⟨qa22, qa23⟩⟩⟩ : Po)))
  subst_vars; rfl

theorem pApply (pa0 pa1 pa2 pa3 pa4 pa5 pa6 pa7 pa8 pa9 pa10 pa11 pa12 pa13 pa14 pa15 pa16 pa17 pa18 pa19 pa20 pa21 pa22 pa23 : Int) (va0 va1 va2 va3 va4 va5 : Int) (w : World) : Calls Try.prog 50 [.agg #[.int .i64 pa0, .int .i64 pa1, .int .i64 pa2, .int .i64 pa3, .int .i64 pa4, .int .i64 pa5, .int .i64 pa6, .int .i64 pa7, .int .i64 pa8, .int .i64 pa9, .int .i64 pa10, .int .i64 pa11, .int .i64 pa12, .int .i64 pa13, .int .i64 pa14, .int .i64 pa15, .int .i64 pa16, .int .i64 pa17, .int .i64 pa18, .int .i64 pa19, .int .i64 pa20, .int .i64 pa21, .int .i64 pa22, .int .i64 pa23], .agg #[.int .i64 va0, .int .i64 va1, .int .i64 va2, .int .i64 va3, .int .i64 va4, .int .i64 va5]].toArray w (Rets (v3 (Po.app (⟨⟨⟨⟨pa0, pa1⟩, ⟨pa2, pa3⟩, ⟨pa4, pa5⟩⟩, ⟨⟨pa6, pa7⟩, ⟨pa8, pa9⟩, ⟨pa10, pa11⟩⟩, ⟨⟨pa12, pa13⟩, ⟨pa14, pa15⟩, ⟨pa16, pa17⟩⟩⟩, ⟨⟨pa18, pa19⟩, ⟨pa20, pa21⟩, ⟨pa22, pa23⟩⟩⟩ : Po) (⟨⟨va0, va1⟩, ⟨va2, va3⟩, ⟨va4, va5⟩⟩ : V3))) (w)) := by
  refine calls_of_doC (n := 9) Try.func50 rfl rfl rfl ?_
  refine doC_seq ?_
  refine doC_region ?_
  refine doL_box 2 rfl rfl rfl rfl ?_; intro b2
  refine doL_box 3 rfl rfl rfl rfl ?_; intro b3
  refine doL_alloc 4 ze34 rfl rfl rfl ?_; intro b4
  refine doL_nil ?_
  refine post_then ?_
  refine doC_seq ?_
  refine doC_drawn 4 mo (by kernel_rfl) ?_
  simp only [List.take_succ_cons, List.take_zero, List.drop_succ_cons, List.drop_zero]
  refine doG_v (opV_loadA 2 ty63 rfl rfl rfl) rfl rfl rfl ?_
  refine doG_callNewF en97 rfl (fun w' _ => pMover _ _ _ _ _ _ _ _ _ _ _ _ _ _ _ _ _ _ _ _ _ _ _ _ w') rfl rfl rfl ?_
  refine doG_v (opV_loadA 3 ty34 rfl rfl rfl) rfl rfl rfl ?_
  refine doG_callFG (F := v3) (first := fun _ => []) (cap := fun b => [.pointer (some ⟨b, 0, none⟩)]) 6 rfl (fun _ => rfl) en127 (fun u => rfl) (fun b w _ hb => pMove _ _ _ _ _ _ _ _ _ _ _ _ _ _ _ _ _ _ _ _ _ _ _ _ _ _ _ _ _ _ _ w hb) (fun u => rfl) (by decide) rfl ?_; intro r8 hr8
  refine doG_nil ?_
  refine tail_ghost ?_; intro u6
  refine tail_nil ?_
  refine doL_store 4 ty34 rfl rfl rfl rfl rfl rfl rfl rfl ?_
  refine doL_nil ?_
  refine post_then ?_
  refine doC_ret ?_
  refine post_rets (rs := [.cell 4 34]) rfl (resC (resIs_cell 4 rfl rfl ty34 rfl) (resN)) (congrArg (v3) (?_ : ⟨⟨_, _⟩, ⟨_, _⟩, ⟨_, _⟩⟩ = Po.app (⟨⟨⟨⟨pa0, pa1⟩, ⟨pa2, pa3⟩, ⟨pa4, pa5⟩⟩, ⟨⟨pa6, pa7⟩, ⟨pa8, pa9⟩, ⟨pa10, pa11⟩⟩, ⟨⟨pa12, pa13⟩, ⟨pa14, pa15⟩, ⟨pa16, pa17⟩⟩⟩, ⟨⟨pa18, pa19⟩, ⟨pa20, pa21⟩, ⟨pa22, pa23⟩⟩⟩ : Po) (⟨⟨va0, va1⟩, ⟨va2, va3⟩, ⟨va4, va5⟩⟩ : V3)))
  subst_vars; rfl

theorem qApply (pa0 pa1 pa2 pa3 pa4 pa5 pa6 pa7 pa8 pa9 pa10 pa11 pa12 pa13 pa14 pa15 pa16 pa17 pa18 pa19 pa20 pa21 pa22 pa23 : Int) (va0 va1 va2 va3 va4 va5 : Int) (w : World) : Calls Try.prog 100 [.agg #[.int .i64 pa0, .int .i64 pa1, .int .i64 pa2, .int .i64 pa3, .int .i64 pa4, .int .i64 pa5, .int .i64 pa6, .int .i64 pa7, .int .i64 pa8, .int .i64 pa9, .int .i64 pa10, .int .i64 pa11, .int .i64 pa12, .int .i64 pa13, .int .i64 pa14, .int .i64 pa15, .int .i64 pa16, .int .i64 pa17, .int .i64 pa18, .int .i64 pa19, .int .i64 pa20, .int .i64 pa21, .int .i64 pa22, .int .i64 pa23], .agg #[.int .i64 va0, .int .i64 va1, .int .i64 va2, .int .i64 va3, .int .i64 va4, .int .i64 va5]].toArray w (Rets (v3 (Po.app (⟨⟨⟨⟨pa0, pa1⟩, ⟨pa2, pa3⟩, ⟨pa4, pa5⟩⟩, ⟨⟨pa6, pa7⟩, ⟨pa8, pa9⟩, ⟨pa10, pa11⟩⟩, ⟨⟨pa12, pa13⟩, ⟨pa14, pa15⟩, ⟨pa16, pa17⟩⟩⟩, ⟨⟨pa18, pa19⟩, ⟨pa20, pa21⟩, ⟨pa22, pa23⟩⟩⟩ : Po) (⟨⟨va0, va1⟩, ⟨va2, va3⟩, ⟨va4, va5⟩⟩ : V3))) (w)) := by
  refine calls_of_doC (n := 12) Try.func100 rfl rfl rfl ?_
  refine doC_seq ?_
  refine doC_region ?_
  refine doL_box 2 rfl rfl rfl rfl ?_; intro b2
  refine doL_box 3 rfl rfl rfl rfl ?_; intro b3
  refine doL_alloc 4 ze34 rfl rfl rfl ?_; intro b4
  refine doL_nil ?_
  refine post_then ?_
  refine doC_seq ?_
  refine doC_drawn 7 mo (by kernel_rfl) ?_
  simp only [List.take_succ_cons, List.take_zero, List.drop_succ_cons, List.drop_zero]
  refine doG_v (opV_fieldAddr fa63_1 rfl) rfl rfl rfl ?_
  refine doG_v (opV_loadA 2 ty34 rfl rfl rfl) rfl rfl rfl ?_
  refine doG_v (opV_fieldAddr fa63_0 rfl) rfl rfl rfl ?_
  refine doG_v (opV_loadA 2 ty28 rfl rfl rfl) rfl rfl rfl ?_
  refine doG_v (opV_loadA 3 ty34 rfl rfl rfl) rfl rfl rfl ?_
  refine doG_vg (F := v3) (opV_call en90 rfl (fun w _ => rApply _ _ _ _ _ _ _ _ _ _ _ _ _ _ _ _ _ _ _ _ _ _ _ _  w)) rfl rfl rfl ?_; intro r10 hr10
  refine doG_vg (F := v3) (opV_call en55 rfl (fun w _ => rAddVec _ _ _ _ _ _ _ _ _ _ _ _  w)) rfl rfl rfl ?_; intro r11 hr11
  refine doG_nil ?_
  refine tail_nil ?_
  refine doL_store 4 ty34 rfl rfl rfl rfl rfl rfl rfl rfl ?_
  refine doL_nil ?_
  refine post_then ?_
  refine doC_ret ?_
  refine post_rets (rs := [.cell 4 34]) rfl (resC (resIs_cell 4 rfl rfl ty34 rfl) (resN)) (congrArg (v3) (?_ : ⟨⟨_, _⟩, ⟨_, _⟩, ⟨_, _⟩⟩ = Po.app (⟨⟨⟨⟨pa0, pa1⟩, ⟨pa2, pa3⟩, ⟨pa4, pa5⟩⟩, ⟨⟨pa6, pa7⟩, ⟨pa8, pa9⟩, ⟨pa10, pa11⟩⟩, ⟨⟨pa12, pa13⟩, ⟨pa14, pa15⟩, ⟨pa16, pa17⟩⟩⟩, ⟨⟨pa18, pa19⟩, ⟨pa20, pa21⟩, ⟨pa22, pa23⟩⟩⟩ : Po) (⟨⟨va0, va1⟩, ⟨va2, va3⟩, ⟨va4, va5⟩⟩ : V3)))
  subst_vars; rfl

theorem pInverse (pa0 pa1 pa2 pa3 pa4 pa5 pa6 pa7 pa8 pa9 pa10 pa11 pa12 pa13 pa14 pa15 pa16 pa17 pa18 pa19 pa20 pa21 pa22 pa23 : Int) (w : World) : Calls Try.prog 68 [.agg #[.int .i64 pa0, .int .i64 pa1, .int .i64 pa2, .int .i64 pa3, .int .i64 pa4, .int .i64 pa5, .int .i64 pa6, .int .i64 pa7, .int .i64 pa8, .int .i64 pa9, .int .i64 pa10, .int .i64 pa11, .int .i64 pa12, .int .i64 pa13, .int .i64 pa14, .int .i64 pa15, .int .i64 pa16, .int .i64 pa17, .int .i64 pa18, .int .i64 pa19, .int .i64 pa20, .int .i64 pa21, .int .i64 pa22, .int .i64 pa23]].toArray w (Rets (po (Po.inv (⟨⟨⟨⟨pa0, pa1⟩, ⟨pa2, pa3⟩, ⟨pa4, pa5⟩⟩, ⟨⟨pa6, pa7⟩, ⟨pa8, pa9⟩, ⟨pa10, pa11⟩⟩, ⟨⟨pa12, pa13⟩, ⟨pa14, pa15⟩, ⟨pa16, pa17⟩⟩⟩, ⟨⟨pa18, pa19⟩, ⟨pa20, pa21⟩, ⟨pa22, pa23⟩⟩⟩ : Po))) (w)) := by
  refine calls_of_doC (n := 26) Try.func68 rfl rfl rfl ?_
  refine doC_seq ?_
  refine doC_region ?_
  refine doL_box 1 rfl rfl rfl rfl ?_; intro b1
  refine doL_alloc 2 ze63 rfl rfl rfl ?_; intro b2
  refine doL_nil ?_
  refine post_then ?_
  refine doC_seq ?_
  refine doC_region ?_
  refine doL_v (opV_fieldAddr fa63_0 rfl) rfl rfl rfl ?_
  refine doL_v (opV_loadA 1 ty28 rfl rfl rfl) rfl rfl rfl ?_
  refine doL_vg (F := m3) (opV_call en41 rfl (fun w _ => mTranspose _ _ _ _ _ _ _ _ _ _ _ _ _ _ _ _ _ _  w)) rfl rfl rfl ?_; intro r8 hr8
  refine doL_alloc 3 ze28 rfl rfl rfl ?_; intro b3
  refine doL_store 3 ty28 rfl rfl rfl rfl rfl rfl rfl rfl ?_
  refine doL_nil ?_
  refine post_then ?_
  refine doC_seq ?_
  refine doC_region ?_
  refine doL_v (opV_loadA 3 ty28 rfl rfl rfl) rfl rfl rfl ?_
  refine doL_v (opV_fieldAddr fa63_1 rfl) rfl rfl rfl ?_
  refine doL_v (opV_loadA 1 ty34 rfl rfl rfl) rfl rfl rfl ?_
  refine doL_vg (F := v3) (opV_call en29 rfl (fun w _ => mApply _ _ _ _ _ _ _ _ _ _ _ _ _ _ _ _ _ _ _ _ _ _ _ _  w)) rfl rfl rfl ?_; intro r12 hr12
  refine doL_alloc 4 ze34 rfl rfl rfl ?_; intro b4
  refine doL_store 4 ty34 rfl rfl rfl rfl rfl rfl rfl rfl ?_
  refine doL_nil ?_
  refine post_then ?_
  refine doC_seq ?_
  refine doC_seq ?_
  refine doC_region ?_
  refine doL_v (opV_move rfl) rfl rfl rfl ?_
  refine doL_nil ?_
  refine post_then ?_
  refine doC_block ?_
  refine doC_rounds 4 ?_
  refine doR_succ ?_
  refine doC_seq ?_
  refine doC_region ?_
  refine doL_v (opV_lss rfl rfl) rfl rfl rfl ?_
  refine doL_nil ?_
  refine post_then ?_
  refine doC_seq ?_
  refine doC_cond_t rfl (by decide) ?_
  refine doC_skip ?_
  refine post_then ?_
  refine doC_seq ?_
  refine doC_block ?_
  refine doC_seq ?_
  refine doC_region ?_
  refine doL_v (opV_move rfl) rfl rfl rfl ?_
  refine doL_v (opV_assign rfl) rfl rfl rfl ?_
  refine doL_nil ?_
  refine post_then ?_
  refine doC_region ?_
  refine doL_v (opV_move rfl) rfl rfl rfl ?_
  refine doL_v (opV_move rfl) rfl rfl rfl ?_
  refine doL_v (opV_indexAddr ar34 rfl rfl (by first | decide | omega) (by first | decide | omega)) rfl rfl rfl ?_
  refine doL_v (opV_loadA 4 ty23 rfl rfl rfl) rfl rfl rfl ?_
  refine doL_vg (F := iv) (opV_call en78 rfl (fun w _ => iNeg _ _  w)) rfl rfl rfl ?_; intro r20 hr20
  refine doL_v (opV_indexAddr ar34 rfl rfl (by first | decide | omega) (by first | decide | omega)) rfl rfl rfl ?_
  refine doL_store 4 ty23 rfl rfl rfl rfl rfl rfl rfl rfl ?_
  refine doL_nil ?_
  refine post_block_normal ?_
  refine post_then ?_
  refine doC_region ?_
  refine doL_v (opV_add rfl rfl (by first | exact i64_in ⟨by omega, by omega⟩ | rfl)) rfl rfl rfl ?_
  refine doL_v (opV_move rfl) rfl rfl rfl ?_
  refine doL_nil ?_
  refine post_rounds ?_
  refine doR_succ ?_
  refine doC_seq ?_
  refine doC_region ?_
  refine doL_v (opV_lss rfl rfl) rfl rfl rfl ?_
  refine doL_nil ?_
  refine post_then ?_
  refine doC_seq ?_
  refine doC_cond_t rfl (by decide) ?_
  refine doC_skip ?_
  refine post_then ?_
  refine doC_seq ?_
  refine doC_block ?_
  refine doC_seq ?_
  refine doC_region ?_
  refine doL_v (opV_move rfl) rfl rfl rfl ?_
  refine doL_v (opV_assign rfl) rfl rfl rfl ?_
  refine doL_nil ?_
  refine post_then ?_
  refine doC_region ?_
  refine doL_v (opV_move rfl) rfl rfl rfl ?_
  refine doL_v (opV_move rfl) rfl rfl rfl ?_
  refine doL_v (opV_indexAddr ar34 rfl rfl (by first | decide | omega) (by first | decide | omega)) rfl rfl rfl ?_
  refine doL_v (opV_loadA 4 ty23 rfl rfl rfl) rfl rfl rfl ?_
  refine doL_vg (F := iv) (opV_call en78 rfl (fun w _ => iNeg _ _  w)) rfl rfl rfl ?_; intro r20_2 hr20_2
  refine doL_v (opV_indexAddr ar34 rfl rfl (by first | decide | omega) (by first | decide | omega)) rfl rfl rfl ?_
  refine doL_store 4 ty23 rfl rfl rfl rfl rfl rfl rfl rfl ?_
  refine doL_nil ?_
  refine post_block_normal ?_
  refine post_then ?_
  refine doC_region ?_
  refine doL_v (opV_add rfl rfl (by first | exact i64_in ⟨by omega, by omega⟩ | rfl)) rfl rfl rfl ?_
  refine doL_v (opV_move rfl) rfl rfl rfl ?_
  refine doL_nil ?_
  refine post_rounds ?_
  refine doR_succ ?_
  refine doC_seq ?_
  refine doC_region ?_
  refine doL_v (opV_lss rfl rfl) rfl rfl rfl ?_
  refine doL_nil ?_
  refine post_then ?_
  refine doC_seq ?_
  refine doC_cond_t rfl (by decide) ?_
  refine doC_skip ?_
  refine post_then ?_
  refine doC_seq ?_
  refine doC_block ?_
  refine doC_seq ?_
  refine doC_region ?_
  refine doL_v (opV_move rfl) rfl rfl rfl ?_
  refine doL_v (opV_assign rfl) rfl rfl rfl ?_
  refine doL_nil ?_
  refine post_then ?_
  refine doC_region ?_
  refine doL_v (opV_move rfl) rfl rfl rfl ?_
  refine doL_v (opV_move rfl) rfl rfl rfl ?_
  refine doL_v (opV_indexAddr ar34 rfl rfl (by first | decide | omega) (by first | decide | omega)) rfl rfl rfl ?_
  refine doL_v (opV_loadA 4 ty23 rfl rfl rfl) rfl rfl rfl ?_
  refine doL_vg (F := iv) (opV_call en78 rfl (fun w _ => iNeg _ _  w)) rfl rfl rfl ?_; intro r20_3 hr20_3
  refine doL_v (opV_indexAddr ar34 rfl rfl (by first | decide | omega) (by first | decide | omega)) rfl rfl rfl ?_
  refine doL_store 4 ty23 rfl rfl rfl rfl rfl rfl rfl rfl ?_
  refine doL_nil ?_
  refine post_block_normal ?_
  refine post_then ?_
  refine doC_region ?_
  refine doL_v (opV_add rfl rfl (by first | exact i64_in ⟨by omega, by omega⟩ | rfl)) rfl rfl rfl ?_
  refine doL_v (opV_move rfl) rfl rfl rfl ?_
  refine doL_nil ?_
  refine post_rounds ?_
  refine doR_succ ?_
  refine doC_seq ?_
  refine doC_region ?_
  refine doL_v (opV_lss rfl rfl) rfl rfl rfl ?_
  refine doL_nil ?_
  refine post_then ?_
  refine doC_seq ?_
  refine doC_cond_f rfl (by decide) ?_
  refine doC_exit ?_
  refine post_then_exit ?_
  refine post_then_exit ?_
  refine post_block_exit ?_
  refine post_then ?_
  refine doC_seq ?_
  refine doC_region ?_
  refine doL_v (opV_loadA 3 ty28 rfl rfl rfl) rfl rfl rfl ?_
  refine doL_v (opV_loadA 4 ty34 rfl rfl rfl) rfl rfl rfl ?_
  refine doL_v (opV_build la63 rfl rfl) rfl rfl rfl ?_
  refine doL_store 2 ty63 rfl rfl rfl rfl rfl rfl rfl rfl ?_
  refine doL_nil ?_
  refine post_then ?_
  refine doC_ret ?_
  refine post_rets (rs := [.cell 2 63]) rfl (resC (resIs_cell 2 rfl rfl ty63 rfl) (resN)) (congrArg (po) (?_ : ⟨⟨⟨⟨_, _⟩, ⟨_, _⟩, ⟨_, _⟩⟩, ⟨⟨_, _⟩, ⟨_, _⟩, ⟨_, _⟩⟩, ⟨⟨_, _⟩, ⟨_, _⟩, ⟨_, _⟩⟩⟩, ⟨⟨_, _⟩, ⟨_, _⟩, ⟨_, _⟩⟩⟩ = Po.inv (⟨⟨⟨⟨pa0, pa1⟩, ⟨pa2, pa3⟩, ⟨pa4, pa5⟩⟩, ⟨⟨pa6, pa7⟩, ⟨pa8, pa9⟩, ⟨pa10, pa11⟩⟩, ⟨⟨pa12, pa13⟩, ⟨pa14, pa15⟩, ⟨pa16, pa17⟩⟩⟩, ⟨⟨pa18, pa19⟩, ⟨pa20, pa21⟩, ⟨pa22, pa23⟩⟩⟩ : Po)))
  subst_vars; rfl

theorem qInverse (pa0 pa1 pa2 pa3 pa4 pa5 pa6 pa7 pa8 pa9 pa10 pa11 pa12 pa13 pa14 pa15 pa16 pa17 pa18 pa19 pa20 pa21 pa22 pa23 : Int) (w : World) : Calls Try.prog 103 [.agg #[.int .i64 pa0, .int .i64 pa1, .int .i64 pa2, .int .i64 pa3, .int .i64 pa4, .int .i64 pa5, .int .i64 pa6, .int .i64 pa7, .int .i64 pa8, .int .i64 pa9, .int .i64 pa10, .int .i64 pa11, .int .i64 pa12, .int .i64 pa13, .int .i64 pa14, .int .i64 pa15, .int .i64 pa16, .int .i64 pa17, .int .i64 pa18, .int .i64 pa19, .int .i64 pa20, .int .i64 pa21, .int .i64 pa22, .int .i64 pa23]].toArray w (Rets (po (Po.inv (⟨⟨⟨⟨pa0, pa1⟩, ⟨pa2, pa3⟩, ⟨pa4, pa5⟩⟩, ⟨⟨pa6, pa7⟩, ⟨pa8, pa9⟩, ⟨pa10, pa11⟩⟩, ⟨⟨pa12, pa13⟩, ⟨pa14, pa15⟩, ⟨pa16, pa17⟩⟩⟩, ⟨⟨pa18, pa19⟩, ⟨pa20, pa21⟩, ⟨pa22, pa23⟩⟩⟩ : Po))) (w)) := by
  refine calls_of_doC (n := 24) Try.func103 rfl rfl rfl ?_
  refine doC_seq ?_
  refine doC_region ?_
  refine doL_box 1 rfl rfl rfl rfl ?_; intro b1
  refine doL_alloc 2 ze63 rfl rfl rfl ?_; intro b2
  refine doL_nil ?_
  refine post_then ?_
  refine doC_seq ?_
  refine doC_region ?_
  refine doL_v (opV_fieldAddr fa63_0 rfl) rfl rfl rfl ?_
  refine doL_v (opV_loadA 1 ty28 rfl rfl rfl) rfl rfl rfl ?_
  refine doL_vg (F := m3) (opV_call en93 rfl (fun w _ => rTranspose _ _ _ _ _ _ _ _ _ _ _ _ _ _ _ _ _ _  w)) rfl rfl rfl ?_; intro r7 hr7
  refine doL_alloc 3 ze28 rfl rfl rfl ?_; intro b3
  refine doL_store 3 ty28 rfl rfl rfl rfl rfl rfl rfl rfl ?_
  refine doL_nil ?_
  refine post_then ?_
  refine doC_seq ?_
  refine doC_region ?_
  refine doL_v (opV_loadA 3 ty28 rfl rfl rfl) rfl rfl rfl ?_
  refine doL_v (opV_fieldAddr fa63_1 rfl) rfl rfl rfl ?_
  refine doL_v (opV_loadA 1 ty34 rfl rfl rfl) rfl rfl rfl ?_
  refine doL_vg (F := v3) (opV_call en90 rfl (fun w _ => rApply _ _ _ _ _ _ _ _ _ _ _ _ _ _ _ _ _ _ _ _ _ _ _ _  w)) rfl rfl rfl ?_; intro r11 hr11
  refine doL_alloc 4 ze34 rfl rfl rfl ?_; intro b4
  refine doL_store 4 ty34 rfl rfl rfl rfl rfl rfl rfl rfl ?_
  refine doL_nil ?_
  refine post_then ?_
  refine doC_seq ?_
  refine doC_drawn 12 mo (by kernel_rfl) ?_
  simp only [List.take_succ_cons, List.take_zero, List.drop_succ_cons, List.drop_zero]
  refine doG_v (opV_loadA 3 ty28 rfl rfl rfl) rfl rfl rfl ?_
  refine doG_v (opV_indexAddr ar34 rfl rfl (by first | decide | omega) (by first | decide | omega)) rfl rfl rfl ?_
  refine doG_v (opV_loadA 4 ty23 rfl rfl rfl) rfl rfl rfl ?_
  refine doG_vg (F := iv) (opV_call en83 rfl (fun w _ => rNeg _ _  w)) rfl rfl rfl ?_; intro r15 hr15
  refine doG_v (opV_indexAddr ar34 rfl rfl (by first | decide | omega) (by first | decide | omega)) rfl rfl rfl ?_
  refine doG_v (opV_loadA 4 ty23 rfl rfl rfl) rfl rfl rfl ?_
  refine doG_vg (F := iv) (opV_call en83 rfl (fun w _ => rNeg _ _  w)) rfl rfl rfl ?_; intro r18 hr18
  refine doG_v (opV_indexAddr ar34 rfl rfl (by first | decide | omega) (by first | decide | omega)) rfl rfl rfl ?_
  refine doG_v (opV_loadA 4 ty23 rfl rfl rfl) rfl rfl rfl ?_
  refine doG_vg (F := iv) (opV_call en83 rfl (fun w _ => rNeg _ _  w)) rfl rfl rfl ?_; intro r21 hr21
  refine doG_v (opV_build la34 rfl rfl) rfl rfl rfl ?_
  refine doG_v (opV_build la63 rfl rfl) rfl rfl rfl ?_
  refine doG_nil ?_
  refine tail_nil ?_
  refine doL_store 2 ty63 rfl rfl rfl rfl rfl rfl rfl rfl ?_
  refine doL_nil ?_
  refine post_then ?_
  refine doC_ret ?_
  refine post_rets (rs := [.cell 2 63]) rfl (resC (resIs_cell 2 rfl rfl ty63 rfl) (resN)) (congrArg (po) (?_ : ⟨⟨⟨⟨_, _⟩, ⟨_, _⟩, ⟨_, _⟩⟩, ⟨⟨_, _⟩, ⟨_, _⟩, ⟨_, _⟩⟩, ⟨⟨_, _⟩, ⟨_, _⟩, ⟨_, _⟩⟩⟩, ⟨⟨_, _⟩, ⟨_, _⟩, ⟨_, _⟩⟩⟩ = Po.inv (⟨⟨⟨⟨pa0, pa1⟩, ⟨pa2, pa3⟩, ⟨pa4, pa5⟩⟩, ⟨⟨pa6, pa7⟩, ⟨pa8, pa9⟩, ⟨pa10, pa11⟩⟩, ⟨⟨pa12, pa13⟩, ⟨pa14, pa15⟩, ⟨pa16, pa17⟩⟩⟩, ⟨⟨pa18, pa19⟩, ⟨pa20, pa21⟩, ⟨pa22, pa23⟩⟩⟩ : Po)))
  subst_vars; rfl

theorem pWithin (pa0 pa1 pa2 pa3 pa4 pa5 pa6 pa7 pa8 pa9 pa10 pa11 pa12 pa13 pa14 pa15 pa16 pa17 pa18 pa19 pa20 pa21 pa22 pa23 : Int) (qa0 qa1 qa2 qa3 qa4 qa5 qa6 qa7 qa8 qa9 qa10 qa11 qa12 qa13 qa14 qa15 qa16 qa17 qa18 qa19 qa20 qa21 qa22 qa23 : Int) (w : World) : Calls Try.prog 67 [.agg #[.int .i64 pa0, .int .i64 pa1, .int .i64 pa2, .int .i64 pa3, .int .i64 pa4, .int .i64 pa5, .int .i64 pa6, .int .i64 pa7, .int .i64 pa8, .int .i64 pa9, .int .i64 pa10, .int .i64 pa11, .int .i64 pa12, .int .i64 pa13, .int .i64 pa14, .int .i64 pa15, .int .i64 pa16, .int .i64 pa17, .int .i64 pa18, .int .i64 pa19, .int .i64 pa20, .int .i64 pa21, .int .i64 pa22, .int .i64 pa23], .agg #[.int .i64 qa0, .int .i64 qa1, .int .i64 qa2, .int .i64 qa3, .int .i64 qa4, .int .i64 qa5, .int .i64 qa6, .int .i64 qa7, .int .i64 qa8, .int .i64 qa9, .int .i64 qa10, .int .i64 qa11, .int .i64 qa12, .int .i64 qa13, .int .i64 qa14, .int .i64 qa15, .int .i64 qa16, .int .i64 qa17, .int .i64 qa18, .int .i64 qa19, .int .i64 qa20, .int .i64 qa21, .int .i64 qa22, .int .i64 qa23]].toArray w (Rets (vB (Po.within (⟨⟨⟨⟨pa0, pa1⟩, ⟨pa2, pa3⟩, ⟨pa4, pa5⟩⟩, ⟨⟨pa6, pa7⟩, ⟨pa8, pa9⟩, ⟨pa10, pa11⟩⟩, ⟨⟨pa12, pa13⟩, ⟨pa14, pa15⟩, ⟨pa16, pa17⟩⟩⟩, ⟨⟨pa18, pa19⟩, ⟨pa20, pa21⟩, ⟨pa22, pa23⟩⟩⟩ : Po) (⟨⟨⟨⟨qa0, qa1⟩, ⟨qa2, qa3⟩, ⟨qa4, qa5⟩⟩, ⟨⟨qa6, qa7⟩, ⟨qa8, qa9⟩, ⟨qa10, qa11⟩⟩, ⟨⟨qa12, qa13⟩, ⟨qa14, qa15⟩, ⟨qa16, qa17⟩⟩⟩, ⟨⟨qa18, qa19⟩, ⟨qa20, qa21⟩, ⟨qa22, qa23⟩⟩⟩ : Po))) (w)) := by
  refine calls_of_doC (n := 17) Try.func67 rfl rfl rfl ?_
  refine doC_seq ?_
  refine doC_region ?_
  refine doL_box 2 rfl rfl rfl rfl ?_; intro b2
  refine doL_box 3 rfl rfl rfl rfl ?_; intro b3
  refine doL_v (opV_assign rfl) rfl rfl rfl ?_
  refine doL_nil ?_
  refine post_then ?_
  refine doC_seq ?_
  refine doC_region ?_
  refine doL_v (opV_fieldAddr fa63_0 rfl) rfl rfl rfl ?_
  refine doL_v (opV_loadA 2 ty28 rfl rfl rfl) rfl rfl rfl ?_
  refine doL_v (opV_fieldAddr fa63_0 rfl) rfl rfl rfl ?_
  refine doL_v (opV_loadA 3 ty28 rfl rfl rfl) rfl rfl rfl ?_
  refine doL_vg (F := vB) (opV_call en40 rfl (fun w _ => mWithinMat _ _ _ _ _ _ _ _ _ _ _ _ _ _ _ _ _ _ _ _ _ _ _ _ _ _ _ _ _ _ _ _ _ _ _ _  w)) rfl rfl rfl ?_; intro r9 hr9
  refine doL_v (opV_move rfl) rfl rfl rfl ?_
  refine doL_split 10 rfl (fun hg10 => ?_) (fun hg10 => ?_)
  ·
    refine doL_v (opV_fieldAddr fa63_1 rfl) rfl rfl rfl ?_
    refine doL_v (opV_loadA 2 ty34 rfl rfl rfl) rfl rfl rfl ?_
    refine doL_v (opV_fieldAddr fa63_1 rfl) rfl rfl rfl ?_
    refine doL_v (opV_loadA 3 ty34 rfl rfl rfl) rfl rfl rfl ?_
    refine doL_vg (F := vB) (opV_call en46 rfl (fun w _ => mWithin _ _ _ _ _ _ _ _ _ _ _ _  w)) rfl rfl rfl ?_; intro r15 hr15
    refine doL_v (opV_pick_t rfl rfl rfl rfl) rfl rfl rfl ?_
    refine doL_v (opV_assign rfl) rfl rfl rfl ?_
    refine doL_nil ?_
    refine post_then ?_
    refine doC_ret ?_
    refine post_rets (rs := [.tmp 4]) rfl (resC (resIs_tmp rfl) (resN)) (congrArg (vB) (?_ : _ = Po.within (⟨⟨⟨⟨pa0, pa1⟩, ⟨pa2, pa3⟩, ⟨pa4, pa5⟩⟩, ⟨⟨pa6, pa7⟩, ⟨pa8, pa9⟩, ⟨pa10, pa11⟩⟩, ⟨⟨pa12, pa13⟩, ⟨pa14, pa15⟩, ⟨pa16, pa17⟩⟩⟩, ⟨⟨pa18, pa19⟩, ⟨pa20, pa21⟩, ⟨pa22, pa23⟩⟩⟩ : Po) (⟨⟨⟨⟨qa0, qa1⟩, ⟨qa2, qa3⟩, ⟨qa4, qa5⟩⟩, ⟨⟨qa6, qa7⟩, ⟨qa8, qa9⟩, ⟨qa10, qa11⟩⟩, ⟨⟨qa12, qa13⟩, ⟨qa14, qa15⟩, ⟨qa16, qa17⟩⟩⟩, ⟨⟨qa18, qa19⟩, ⟨qa20, qa21⟩, ⟨qa22, qa23⟩⟩⟩ : Po)))
    subst_vars; simp_all [Po.within]
  ·
    refine doL_skip rfl rfl rfl ?_
    refine doL_skip rfl rfl rfl ?_
    refine doL_skip rfl rfl rfl ?_
    refine doL_skip rfl rfl rfl ?_
    refine doL_skip rfl rfl rfl ?_
    refine doL_v (opV_pick_f rfl rfl rfl rfl) rfl rfl rfl ?_
    refine doL_v (opV_assign rfl) rfl rfl rfl ?_
    refine doL_nil ?_
    refine post_then ?_
    refine doC_ret ?_
    refine post_rets (rs := [.tmp 4]) rfl (resC (resIs_tmp rfl) (resN)) (congrArg (vB) (?_ : _ = Po.within (⟨⟨⟨⟨pa0, pa1⟩, ⟨pa2, pa3⟩, ⟨pa4, pa5⟩⟩, ⟨⟨pa6, pa7⟩, ⟨pa8, pa9⟩, ⟨pa10, pa11⟩⟩, ⟨⟨pa12, pa13⟩, ⟨pa14, pa15⟩, ⟨pa16, pa17⟩⟩⟩, ⟨⟨pa18, pa19⟩, ⟨pa20, pa21⟩, ⟨pa22, pa23⟩⟩⟩ : Po) (⟨⟨⟨⟨qa0, qa1⟩, ⟨qa2, qa3⟩, ⟨qa4, qa5⟩⟩, ⟨⟨qa6, qa7⟩, ⟨qa8, qa9⟩, ⟨qa10, qa11⟩⟩, ⟨⟨qa12, qa13⟩, ⟨qa14, qa15⟩, ⟨qa16, qa17⟩⟩⟩, ⟨⟨qa18, qa19⟩, ⟨qa20, qa21⟩, ⟨qa22, qa23⟩⟩⟩ : Po)))
    subst_vars; simp_all [Po.within]

theorem qWithin (pa0 pa1 pa2 pa3 pa4 pa5 pa6 pa7 pa8 pa9 pa10 pa11 pa12 pa13 pa14 pa15 pa16 pa17 pa18 pa19 pa20 pa21 pa22 pa23 : Int) (qa0 qa1 qa2 qa3 qa4 qa5 qa6 qa7 qa8 qa9 qa10 qa11 qa12 qa13 qa14 qa15 qa16 qa17 qa18 qa19 qa20 qa21 qa22 qa23 : Int) (w : World) : Calls Try.prog 104 [.agg #[.int .i64 pa0, .int .i64 pa1, .int .i64 pa2, .int .i64 pa3, .int .i64 pa4, .int .i64 pa5, .int .i64 pa6, .int .i64 pa7, .int .i64 pa8, .int .i64 pa9, .int .i64 pa10, .int .i64 pa11, .int .i64 pa12, .int .i64 pa13, .int .i64 pa14, .int .i64 pa15, .int .i64 pa16, .int .i64 pa17, .int .i64 pa18, .int .i64 pa19, .int .i64 pa20, .int .i64 pa21, .int .i64 pa22, .int .i64 pa23], .agg #[.int .i64 qa0, .int .i64 qa1, .int .i64 qa2, .int .i64 qa3, .int .i64 qa4, .int .i64 qa5, .int .i64 qa6, .int .i64 qa7, .int .i64 qa8, .int .i64 qa9, .int .i64 qa10, .int .i64 qa11, .int .i64 qa12, .int .i64 qa13, .int .i64 qa14, .int .i64 qa15, .int .i64 qa16, .int .i64 qa17, .int .i64 qa18, .int .i64 qa19, .int .i64 qa20, .int .i64 qa21, .int .i64 qa22, .int .i64 qa23]].toArray w (Rets (vB (Po.within (⟨⟨⟨⟨pa0, pa1⟩, ⟨pa2, pa3⟩, ⟨pa4, pa5⟩⟩, ⟨⟨pa6, pa7⟩, ⟨pa8, pa9⟩, ⟨pa10, pa11⟩⟩, ⟨⟨pa12, pa13⟩, ⟨pa14, pa15⟩, ⟨pa16, pa17⟩⟩⟩, ⟨⟨pa18, pa19⟩, ⟨pa20, pa21⟩, ⟨pa22, pa23⟩⟩⟩ : Po) (⟨⟨⟨⟨qa0, qa1⟩, ⟨qa2, qa3⟩, ⟨qa4, qa5⟩⟩, ⟨⟨qa6, qa7⟩, ⟨qa8, qa9⟩, ⟨qa10, qa11⟩⟩, ⟨⟨qa12, qa13⟩, ⟨qa14, qa15⟩, ⟨qa16, qa17⟩⟩⟩, ⟨⟨qa18, qa19⟩, ⟨qa20, qa21⟩, ⟨qa22, qa23⟩⟩⟩ : Po))) (w)) := by
  refine calls_of_doC (n := 17) Try.func104 rfl rfl rfl ?_
  refine doC_seq ?_
  refine doC_region ?_
  refine doL_box 2 rfl rfl rfl rfl ?_; intro b2
  refine doL_box 3 rfl rfl rfl rfl ?_; intro b3
  refine doL_v (opV_assign rfl) rfl rfl rfl ?_
  refine doL_nil ?_
  refine post_then ?_
  refine doC_seq ?_
  refine doC_region ?_
  refine doL_v (opV_fieldAddr fa63_0 rfl) rfl rfl rfl ?_
  refine doL_v (opV_loadA 2 ty28 rfl rfl rfl) rfl rfl rfl ?_
  refine doL_v (opV_fieldAddr fa63_0 rfl) rfl rfl rfl ?_
  refine doL_v (opV_loadA 3 ty28 rfl rfl rfl) rfl rfl rfl ?_
  refine doL_vg (F := vB) (opV_call en94 rfl (fun w _ => rWithinMat _ _ _ _ _ _ _ _ _ _ _ _ _ _ _ _ _ _ _ _ _ _ _ _ _ _ _ _ _ _ _ _ _ _ _ _  w)) rfl rfl rfl ?_; intro r9 hr9
  refine doL_v (opV_move rfl) rfl rfl rfl ?_
  refine doL_split 10 rfl (fun hg10 => ?_) (fun hg10 => ?_)
  ·
    refine doL_v (opV_fieldAddr fa63_1 rfl) rfl rfl rfl ?_
    refine doL_v (opV_loadA 2 ty34 rfl rfl rfl) rfl rfl rfl ?_
    refine doL_v (opV_fieldAddr fa63_1 rfl) rfl rfl rfl ?_
    refine doL_v (opV_loadA 3 ty34 rfl rfl rfl) rfl rfl rfl ?_
    refine doL_vg (F := vB) (opV_call en69 rfl (fun w _ => rWithinVec _ _ _ _ _ _ _ _ _ _ _ _  w)) rfl rfl rfl ?_; intro r15 hr15
    refine doL_v (opV_pick_t rfl rfl rfl rfl) rfl rfl rfl ?_
    refine doL_v (opV_assign rfl) rfl rfl rfl ?_
    refine doL_nil ?_
    refine post_then ?_
    refine doC_ret ?_
    refine post_rets (rs := [.tmp 4]) rfl (resC (resIs_tmp rfl) (resN)) (congrArg (vB) (?_ : _ = Po.within (⟨⟨⟨⟨pa0, pa1⟩, ⟨pa2, pa3⟩, ⟨pa4, pa5⟩⟩, ⟨⟨pa6, pa7⟩, ⟨pa8, pa9⟩, ⟨pa10, pa11⟩⟩, ⟨⟨pa12, pa13⟩, ⟨pa14, pa15⟩, ⟨pa16, pa17⟩⟩⟩, ⟨⟨pa18, pa19⟩, ⟨pa20, pa21⟩, ⟨pa22, pa23⟩⟩⟩ : Po) (⟨⟨⟨⟨qa0, qa1⟩, ⟨qa2, qa3⟩, ⟨qa4, qa5⟩⟩, ⟨⟨qa6, qa7⟩, ⟨qa8, qa9⟩, ⟨qa10, qa11⟩⟩, ⟨⟨qa12, qa13⟩, ⟨qa14, qa15⟩, ⟨qa16, qa17⟩⟩⟩, ⟨⟨qa18, qa19⟩, ⟨qa20, qa21⟩, ⟨qa22, qa23⟩⟩⟩ : Po)))
    subst_vars; simp_all [Po.within]
  ·
    refine doL_skip rfl rfl rfl ?_
    refine doL_skip rfl rfl rfl ?_
    refine doL_skip rfl rfl rfl ?_
    refine doL_skip rfl rfl rfl ?_
    refine doL_skip rfl rfl rfl ?_
    refine doL_v (opV_pick_f rfl rfl rfl rfl) rfl rfl rfl ?_
    refine doL_v (opV_assign rfl) rfl rfl rfl ?_
    refine doL_nil ?_
    refine post_then ?_
    refine doC_ret ?_
    refine post_rets (rs := [.tmp 4]) rfl (resC (resIs_tmp rfl) (resN)) (congrArg (vB) (?_ : _ = Po.within (⟨⟨⟨⟨pa0, pa1⟩, ⟨pa2, pa3⟩, ⟨pa4, pa5⟩⟩, ⟨⟨pa6, pa7⟩, ⟨pa8, pa9⟩, ⟨pa10, pa11⟩⟩, ⟨⟨pa12, pa13⟩, ⟨pa14, pa15⟩, ⟨pa16, pa17⟩⟩⟩, ⟨⟨pa18, pa19⟩, ⟨pa20, pa21⟩, ⟨pa22, pa23⟩⟩⟩ : Po) (⟨⟨⟨⟨qa0, qa1⟩, ⟨qa2, qa3⟩, ⟨qa4, qa5⟩⟩, ⟨⟨qa6, qa7⟩, ⟨qa8, qa9⟩, ⟨qa10, qa11⟩⟩, ⟨⟨qa12, qa13⟩, ⟨qa14, qa15⟩, ⟨qa16, qa17⟩⟩⟩, ⟨⟨qa18, qa19⟩, ⟨qa20, qa21⟩, ⟨qa22, qa23⟩⟩⟩ : Po)))
    subst_vars; simp_all [Po.within]

end Go.Proofs.Ytonampcmhhhffaa

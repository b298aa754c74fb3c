/- Part 10 of the texts behind the last one: rules and contracts. No condition. -/
import Derived.Test.YtmbnpjpggccefaaGreatMV9
namespace Go.Proofs.YtmbnpjpggccefaaGreat
open Go.Sx
theorem la39 : qYZ Tryz.prog 39 = some ([.int .i64 0, .int .i64 0, .int .i64 0], [(0, 1), (1, 1), (2, 1)]) := by kernel_rfl
theorem en59 : jU Tryz.prog 59 := zG Tryz.func59 (by kernel_rfl) (by kernel_rfl)
theorem ze77 : qQV Tryz.prog 77 (.agg #[.int .i64 0, .int .i64 0, .int .i64 0, .int .i64 0, .int .i64 0, .int .i64 0, .int .i64 0, .int .i64 0, .int .i64 0, .int .i64 0, .int .i64 0, .int .i64 0, .int .i64 0, .int .i64 0, .int .i64 0, .int .i64 0, .int .i64 0, .int .i64 0, .int .i64 0, .int .i64 0, .int .i64 0, .int .i64 0, .int .i64 0, .int .i64 0]) := by unfold qQV; kernel_rfl
theorem en98 : jU Tryz.prog 98 := zG Tryz.func98 (by kernel_rfl) (by kernel_rfl)
theorem la77 : qYZ Tryz.prog 77 = some ([.int .i64 0, .int .i64 0, .int .i64 0, .int .i64 0, .int .i64 0, .int .i64 0, .int .i64 0, .int .i64 0, .int .i64 0, .int .i64 0, .int .i64 0, .int .i64 0, .int .i64 0, .int .i64 0, .int .i64 0, .int .i64 0, .int .i64 0, .int .i64 0, .int .i64 0, .int .i64 0, .int .i64 0, .int .i64 0, .int .i64 0, .int .i64 0], [(0, 18), (18, 6)]) := by kernel_rfl
theorem ty77 : tyB Tryz.prog 77 true 24 = true := by kernel_rfl
theorem en118 : jU Tryz.prog 118 := zG Tryz.func118 (by kernel_rfl) (by kernel_rfl)
theorem en114 : jU Tryz.prog 114 := zG Tryz.func114 (by kernel_rfl) (by kernel_rfl)
theorem en58 : jU Tryz.prog 58 := zG Tryz.func58 (by kernel_rfl) (by kernel_rfl)
theorem en162 : jU Tryz.prog 162 := zG Tryz.func162 (by kernel_rfl) (by kernel_rfl)
theorem en152 : jU Tryz.prog 152 := zG Tryz.func152 (by kernel_rfl) (by kernel_rfl)
theorem fa77_1 : qWQ Tryz.prog 77 1 18 = true := by kernel_rfl
theorem fa77_0 : qWQ Tryz.prog 77 0 0 = true := by kernel_rfl
theorem en141 : jU Tryz.prog 141 := zG Tryz.func141 (by kernel_rfl) (by kernel_rfl)
theorem en140 : jU Tryz.prog 140 := zG Tryz.func140 (by kernel_rfl) (by kernel_rfl)
theorem en96 : jU Tryz.prog 96 := zG Tryz.func96 (by kernel_rfl) (by kernel_rfl)
theorem en97 : jU Tryz.prog 97 := zG Tryz.func97 (by kernel_rfl) (by kernel_rfl)
theorem en139 : jU Tryz.prog 139 := zG Tryz.func139 (by kernel_rfl) (by kernel_rfl)
theorem en111 : jU Tryz.prog 111 := zG Tryz.func111 (by kernel_rfl) (by kernel_rfl)
theorem en63 : jU Tryz.prog 63 := zG Tryz.func63 (by kernel_rfl) (by kernel_rfl)
theorem en62 : jU Tryz.prog 62 := zG Tryz.func62 (by kernel_rfl) (by kernel_rfl)
theorem pStill  (w : World) : Calls Tryz.prog 114 [].toArray w (Rets (v3 (V3.zero)) (w)) := by
 refine zX (n := 3) Tryz.func114 rfl rfl rfl ?_
 refine qK ?_
 refine qZ ?_
 refine yQ 0 ze75 rfl rfl rfl ?_; intro b0
 refine qJ ?_
 refine qQ ?_
 refine qK ?_
 refine qZ ?_
 refine qY (zH la39 rfl rfl) rfl rfl rfl ?_
 refine jW (F := v3) (zQ en59 rfl (fun w _ => mPoint _ _ _  w)) rfl rfl rfl ?_; intro r2 hr2
 refine qG 0 ty75 rfl rfl rfl rfl rfl rfl rfl rfl ?_
 refine qJ ?_
 refine qQ ?_
 refine zV ?_
 refine zK (rs := [.cell 0 75]) rfl (resC (zU 0 rfl rfl ty75 rfl) (resN)) (congrArg (v3) (?_ : ⟨⟨_, _⟩, ⟨_, _⟩, ⟨_, _⟩⟩ = V3.zero))
 subst_vars; rfl
theorem pShift (va0 va1 va2 va3 va4 va5 : Int) (w : World) : Calls Tryz.prog 58 [.agg #[.int .i64 va0, .int .i64 va1, .int .i64 va2, .int .i64 va3, .int .i64 va4, .int .i64 va5]].toArray w (Rets (po (Po.shift (⟨⟨va0, va1⟩, ⟨va2, va3⟩, ⟨va4, va5⟩⟩ : V3))) (w)) := by
 refine zX (n := 6) Tryz.func58 rfl rfl rfl ?_
 refine qK ?_
 refine qZ ?_
 refine kY 1 rfl rfl rfl rfl ?_; intro b1
 refine yQ 2 ze77 rfl rfl rfl ?_; intro b2
 refine qJ ?_
 refine qQ ?_
 refine qK ?_
 refine yY 3 mo (by kernel_rfl) ?_
 simp only [List.take_succ_cons, List.take_zero, List.drop_succ_cons, List.drop_zero]
 refine yV (F := m3) (zQ en98 rfl (fun w _ => mIdentity   w)) rfl rfl rfl ?_; intro r3 hr3
 refine qH (zJ 1 ty75 rfl rfl rfl) rfl rfl rfl ?_
 refine qH (zH la77 rfl rfl) rfl rfl rfl ?_
 refine jX ?_
 refine yU ?_
 refine qG 2 ty77 rfl rfl rfl rfl rfl rfl rfl rfl ?_
 refine qJ ?_
 refine qQ ?_
 refine zV ?_
 refine zK (rs := [.cell 2 77]) rfl (resC (zU 2 rfl rfl ty77 rfl) (resN)) (congrArg (po) (?_ : ⟨⟨⟨⟨_, _⟩, ⟨_, _⟩, ⟨_, _⟩⟩, ⟨⟨_, _⟩, ⟨_, _⟩, ⟨_, _⟩⟩, ⟨⟨_, _⟩, ⟨_, _⟩, ⟨_, _⟩⟩⟩, ⟨⟨_, _⟩, ⟨_, _⟩, ⟨_, _⟩⟩⟩ = Po.shift (⟨⟨va0, va1⟩, ⟨va2, va3⟩, ⟨va4, va5⟩⟩ : V3)))
 subst_vars; rfl
theorem zZU (va0 va1 va2 va3 va4 va5 : Int) (w : World) : Calls Tryz.prog 110 [.agg #[.int .i64 va0, .int .i64 va1, .int .i64 va2, .int .i64 va3, .int .i64 va4, .int .i64 va5]].toArray w (Rets (po (Po.shift (⟨⟨va0, va1⟩, ⟨va2, va3⟩, ⟨va4, va5⟩⟩ : V3))) (w)) := by
 refine zX (n := 6) Tryz.func110 rfl rfl rfl ?_
 refine qK ?_
 refine qZ ?_
 refine kY 1 rfl rfl rfl rfl ?_; intro b1
 refine yQ 2 ze77 rfl rfl rfl ?_; intro b2
 refine qJ ?_
 refine qQ ?_
 refine qK ?_
 refine yY 3 mo (by kernel_rfl) ?_
 simp only [List.take_succ_cons, List.take_zero, List.drop_succ_cons, List.drop_zero]
 refine yV (F := m3) (zQ en118 rfl (fun w _ => rUnit   w)) rfl rfl rfl ?_; intro r3 hr3
 refine qH (zJ 1 ty75 rfl rfl rfl) rfl rfl rfl ?_
 refine qH (zH la77 rfl rfl) rfl rfl rfl ?_
 refine jX ?_
 refine yU ?_
 refine qG 2 ty77 rfl rfl rfl rfl rfl rfl rfl rfl ?_
 refine qJ ?_
 refine qQ ?_
 refine zV ?_
 refine zK (rs := [.cell 2 77]) rfl (resC (zU 2 rfl rfl ty77 rfl) (resN)) (congrArg (po) (?_ : ⟨⟨⟨⟨_, _⟩, ⟨_, _⟩, ⟨_, _⟩⟩, ⟨⟨_, _⟩, ⟨_, _⟩, ⟨_, _⟩⟩, ⟨⟨_, _⟩, ⟨_, _⟩, ⟨_, _⟩⟩⟩, ⟨⟨_, _⟩, ⟨_, _⟩, ⟨_, _⟩⟩⟩ = Po.shift (⟨⟨va0, va1⟩, ⟨va2, va3⟩, ⟨va4, va5⟩⟩ : V3)))
 subst_vars; rfl
theorem pIdentity  (w : World) : Calls Tryz.prog 71 [].toArray w (Rets (po (Po.rest)) (w)) := by
 refine zX (n := 3) Tryz.func71 rfl rfl rfl ?_
 refine qK ?_
 refine qZ ?_
 refine yQ 0 ze77 rfl rfl rfl ?_; intro b0
 refine qJ ?_
 refine qQ ?_
 refine qK ?_
 refine qZ ?_
 refine jW (F := v3) (zQ en114 rfl (fun w _ => pStill   w)) rfl rfl rfl ?_; intro r1 hr1
 refine jW (F := po) (zQ en58 rfl (fun w _ => pShift _ _ _ _ _ _  w)) rfl rfl rfl ?_; intro r2 hr2
 refine qG 0 ty77 rfl rfl rfl rfl rfl rfl rfl rfl ?_
 refine qJ ?_
 refine qQ ?_
 refine zV ?_
 refine zK (rs := [.cell 0 77]) rfl (resC (zU 0 rfl rfl ty77 rfl) (resN)) (congrArg (po) (?_ : ⟨⟨⟨⟨_, _⟩, ⟨_, _⟩, ⟨_, _⟩⟩, ⟨⟨_, _⟩, ⟨_, _⟩, ⟨_, _⟩⟩, ⟨⟨_, _⟩, ⟨_, _⟩, ⟨_, _⟩⟩⟩, ⟨⟨_, _⟩, ⟨_, _⟩, ⟨_, _⟩⟩⟩ = Po.rest))
 subst_vars; rfl
theorem qRest  (w : World) : Calls Tryz.prog 74 [].toArray w (Rets (po (Po.rest)) (w)) := by
 refine zX (n := 3) Tryz.func74 rfl rfl rfl ?_
 refine qK ?_
 refine qZ ?_
 refine yQ 0 ze77 rfl rfl rfl ?_; intro b0
 refine qJ ?_
 refine qQ ?_
 refine qK ?_
 refine qZ ?_
 refine jW (F := m3) (zQ en118 rfl (fun w _ => rUnit   w)) rfl rfl rfl ?_; intro r1 hr1
 refine qY (zH la77 rfl rfl) rfl rfl rfl ?_
 refine qG 0 ty77 rfl rfl rfl rfl rfl rfl rfl rfl ?_
 refine qJ ?_
 refine qQ ?_
 refine zV ?_
 refine zK (rs := [.cell 0 77]) rfl (resC (zU 0 rfl rfl ty77 rfl) (resN)) (congrArg (po) (?_ : ⟨⟨⟨⟨_, _⟩, ⟨_, _⟩, ⟨_, _⟩⟩, ⟨⟨_, _⟩, ⟨_, _⟩, ⟨_, _⟩⟩, ⟨⟨_, _⟩, ⟨_, _⟩, ⟨_, _⟩⟩⟩, ⟨⟨_, _⟩, ⟨_, _⟩, ⟨_, _⟩⟩⟩ = Po.rest))
 subst_vars; rfl
theorem pTurn (axis : Int) (a0 a1 : Int) (w : World) : Calls Tryz.prog 146 [.int .i64 axis, .agg #[.int .i64 a0, .int .i64 a1]].toArray w (Rets (po (Po.turn axis (⟨a0, a1⟩ : Iv))) (w)) := by
 refine zX (n := 10) Tryz.func146 rfl rfl rfl ?_
 refine qK ?_
 refine qZ ?_
 refine kY 3 rfl rfl rfl rfl ?_; intro b3
 refine yQ 4 ze77 rfl rfl rfl ?_; intro b4
 refine qJ ?_
 refine qQ ?_
 refine qK ?_
 refine qZ ?_
 refine qY (qU rfl) rfl rfl rfl ?_
 refine qY (zJ 3 ty71 rfl rfl rfl) rfl rfl rfl ?_
 refine jW (F := m3) (zQ en162 rfl (fun w _ => mTurn _ _ _  w)) rfl rfl rfl ?_; intro r7 hr7
 refine jW (F := v3) (zQ en114 rfl (fun w _ => pStill   w)) rfl rfl rfl ?_; intro r8 hr8
 refine qY (zH la77 rfl rfl) rfl rfl rfl ?_
 refine qG 4 ty77 rfl rfl rfl rfl rfl rfl rfl rfl ?_
 refine qJ ?_
 refine qQ ?_
 refine zV ?_
 refine zK (rs := [.cell 4 77]) rfl (resC (zU 4 rfl rfl ty77 rfl) (resN)) (congrArg (po) (?_ : ⟨⟨⟨⟨_, _⟩, ⟨_, _⟩, ⟨_, _⟩⟩, ⟨⟨_, _⟩, ⟨_, _⟩, ⟨_, _⟩⟩, ⟨⟨_, _⟩, ⟨_, _⟩, ⟨_, _⟩⟩⟩, ⟨⟨_, _⟩, ⟨_, _⟩, ⟨_, _⟩⟩⟩ = Po.turn axis (⟨a0, a1⟩ : Iv)))
 subst_vars; rfl
theorem qTurn (axis : Int) (a0 a1 : Int) (w : World) : Calls Tryz.prog 109 [.int .i64 axis, .agg #[.int .i64 a0, .int .i64 a1]].toArray w (Rets (po (Po.turn axis (⟨a0, a1⟩ : Iv))) (w)) := by
 refine zX (n := 9) Tryz.func109 rfl rfl rfl ?_
 refine qK ?_
 refine qZ ?_
 refine kY 3 rfl rfl rfl rfl ?_; intro b3
 refine yQ 4 ze77 rfl rfl rfl ?_; intro b4
 refine qJ ?_
 refine qQ ?_
 refine qK ?_
 refine qZ ?_
 refine qY (qU rfl) rfl rfl rfl ?_
 refine qY (zJ 3 ty71 rfl rfl rfl) rfl rfl rfl ?_
 refine jW (F := m3) (zQ en152 rfl (fun w _ => rTurn _ _ _  w)) rfl rfl rfl ?_; intro r7 hr7
 refine qY (zH la77 rfl rfl) rfl rfl rfl ?_
 refine qG 4 ty77 rfl rfl rfl rfl rfl rfl rfl rfl ?_
 refine qJ ?_
 refine qQ ?_
 refine zV ?_
 refine zK (rs := [.cell 4 77]) rfl (resC (zU 4 rfl rfl ty77 rfl) (resN)) (congrArg (po) (?_ : ⟨⟨⟨⟨_, _⟩, ⟨_, _⟩, ⟨_, _⟩⟩, ⟨⟨_, _⟩, ⟨_, _⟩, ⟨_, _⟩⟩, ⟨⟨_, _⟩, ⟨_, _⟩, ⟨_, _⟩⟩⟩, ⟨⟨_, _⟩, ⟨_, _⟩, ⟨_, _⟩⟩⟩ = Po.turn axis (⟨a0, a1⟩ : Iv)))
 subst_vars; rfl
theorem pMover (pa0 pa1 pa2 pa3 pa4 pa5 pa6 pa7 pa8 pa9 pa10 pa11 pa12 pa13 pa14 pa15 pa16 pa17 pa18 pa19 pa20 pa21 pa22 pa23 : Int) (w : World) : Calls Tryz.prog 96 [.agg #[.int .i64 pa0, .int .i64 pa1, .int .i64 pa2, .int .i64 pa3, .int .i64 pa4, .int .i64 pa5, .int .i64 pa6, .int .i64 pa7, .int .i64 pa8, .int .i64 pa9, .int .i64 pa10, .int .i64 pa11, .int .i64 pa12, .int .i64 pa13, .int .i64 pa14, .int .i64 pa15, .int .i64 pa16, .int .i64 pa17, .int .i64 pa18, .int .i64 pa19, .int .i64 pa20, .int .i64 pa21, .int .i64 pa22, .int .i64 pa23]].toArray w (RetsT (NewF w (fun b => .func (.func 139) #[] #[.pointer (some ⟨b, 0, none⟩)]) [.int .i64 pa0, .int .i64 pa1, .int .i64 pa2, .int .i64 pa3, .int .i64 pa4, .int .i64 pa5, .int .i64 pa6, .int .i64 pa7, .int .i64 pa8, .int .i64 pa9, .int .i64 pa10, .int .i64 pa11, .int .i64 pa12, .int .i64 pa13, .int .i64 pa14, .int .i64 pa15, .int .i64 pa16, .int .i64 pa17, .int .i64 pa18, .int .i64 pa19, .int .i64 pa20, .int .i64 pa21, .int .i64 pa22, .int .i64 pa23] 77) w) := by
 refine zX (n := 4) Tryz.func96 rfl rfl rfl ?_
 refine qK ?_
 refine qZ ?_
 refine kY 1 rfl rfl rfl rfl ?_; intro b1
 refine qY (qX rfl) rfl rfl rfl ?_
 refine qJ ?_
 refine qQ ?_
 refine qK ?_
 refine qZ ?_
 refine qY (qJW rfl rfl) rfl rfl rfl ?_
 refine qY (qX rfl) rfl rfl rfl ?_
 refine qJ ?_
 refine qQ ?_
 refine zV ?_
 refine qKZ (rs := [.tmp 2]) rfl (resC (kQ rfl) (resN)) rfl ?_
 intro w2 k
 exact ⟨_, rfl, k.grow, _, rfl, (k.at (i := 1) rfl).1, (k.at (i := 1) rfl).2⟩
theorem pMove (va0 va1 va2 va3 va4 va5 : Int) (b : Nat) (pa0 pa1 pa2 pa3 pa4 pa5 pa6 pa7 pa8 pa9 pa10 pa11 pa12 pa13 pa14 pa15 pa16 pa17 pa18 pa19 pa20 pa21 pa22 pa23 : Int) (w : World) (hb : w.heap[b]? = some (.cells [.int .i64 pa0, .int .i64 pa1, .int .i64 pa2, .int .i64 pa3, .int .i64 pa4, .int .i64 pa5, .int .i64 pa6, .int .i64 pa7, .int .i64 pa8, .int .i64 pa9, .int .i64 pa10, .int .i64 pa11, .int .i64 pa12, .int .i64 pa13, .int .i64 pa14, .int .i64 pa15, .int .i64 pa16, .int .i64 pa17, .int .i64 pa18, .int .i64 pa19, .int .i64 pa20, .int .i64 pa21, .int .i64 pa22, .int .i64 pa23].toArray 77)) : Calls Tryz.prog 139 [.agg #[.int .i64 va0, .int .i64 va1, .int .i64 va2, .int .i64 va3, .int .i64 va4, .int .i64 va5], .pointer (some ⟨b, 0, none⟩)].toArray w (Rets (v3 (V3.add (Po.t ⟨⟨⟨⟨pa0, pa1⟩, ⟨pa2, pa3⟩, ⟨pa4, pa5⟩⟩, ⟨⟨pa6, pa7⟩, ⟨pa8, pa9⟩, ⟨pa10, pa11⟩⟩, ⟨⟨pa12, pa13⟩, ⟨pa14, pa15⟩, ⟨pa16, pa17⟩⟩⟩, ⟨⟨pa18, pa19⟩, ⟨pa20, pa21⟩, ⟨pa22, pa23⟩⟩⟩) (M3.apply (Po.r ⟨⟨⟨⟨pa0, pa1⟩, ⟨pa2, pa3⟩, ⟨pa4, pa5⟩⟩, ⟨⟨pa6, pa7⟩, ⟨pa8, pa9⟩, ⟨pa10, pa11⟩⟩, ⟨⟨pa12, pa13⟩, ⟨pa14, pa15⟩, ⟨pa16, pa17⟩⟩⟩, ⟨⟨pa18, pa19⟩, ⟨pa20, pa21⟩, ⟨pa22, pa23⟩⟩⟩) (⟨⟨va0, va1⟩, ⟨va2, va3⟩, ⟨va4, va5⟩⟩ : V3)))) (w)) := by
 refine zX (n := 11) Tryz.func139 rfl rfl rfl ?_
 refine qK ?_
 refine qZ ?_
 refine kY 2 rfl rfl rfl rfl ?_; intro b2
 refine yQ 3 ze75 rfl rfl rfl ?_; intro b3
 refine qJ ?_
 refine qQ ?_
 refine qK ?_
 refine yY 7 mo (by kernel_rfl) ?_
 simp only [List.take_succ_cons, List.take_zero, List.drop_succ_cons, List.drop_zero]
 refine qH (qV fa77_1 rfl) rfl rfl rfl ?_
 refine qH (opV_loadA_blk hb ty75 rfl rfl) rfl rfl rfl ?_
 refine qH (qV fa77_0 rfl) rfl rfl rfl ?_
 refine qH (opV_loadA_blk hb ty74 rfl rfl) rfl rfl rfl ?_
 refine qH (zJ 2 ty75 rfl rfl rfl) rfl rfl rfl ?_
 refine yV (F := v3) (zQ en141 rfl (fun w _ => mApply _ _ _ _ _ _ _ _ _ _ _ _ _ _ _ _ _ _ _ _ _ _ _ _  w)) rfl rfl rfl ?_; intro r9 hr9
 refine yV (F := v3) (zQ en140 rfl (fun w _ => mAdd _ _ _ _ _ _ _ _ _ _ _ _  w)) rfl rfl rfl ?_; intro r10 hr10
 refine jX ?_
 refine yU ?_
 refine qG 3 ty75 rfl rfl rfl rfl rfl rfl rfl rfl ?_
 refine qJ ?_
 refine qQ ?_
 refine zV ?_
 refine zK (rs := [.cell 3 75]) rfl (resC (zU 3 rfl rfl ty75 rfl) (resN)) (congrArg (v3) (?_ : ⟨⟨_, _⟩, ⟨_, _⟩, ⟨_, _⟩⟩ = V3.add (Po.t ⟨⟨⟨⟨pa0, pa1⟩, ⟨pa2, pa3⟩, ⟨pa4, pa5⟩⟩, ⟨⟨pa6, pa7⟩, ⟨pa8, pa9⟩, ⟨pa10, pa11⟩⟩, ⟨⟨pa12, pa13⟩, ⟨pa14, pa15⟩, ⟨pa16, pa17⟩⟩⟩, ⟨⟨pa18, pa19⟩, ⟨pa20, pa21⟩, ⟨pa22, pa23⟩⟩⟩) (M3.apply (Po.r ⟨⟨⟨⟨pa0, pa1⟩, ⟨pa2, pa3⟩, ⟨pa4, pa5⟩⟩, ⟨⟨pa6, pa7⟩, ⟨pa8, pa9⟩, ⟨pa10, pa11⟩⟩, ⟨⟨pa12, pa13⟩, ⟨pa14, pa15⟩, ⟨pa16, pa17⟩⟩⟩, ⟨⟨pa18, pa19⟩, ⟨pa20, pa21⟩, ⟨pa22, pa23⟩⟩⟩) (⟨⟨va0, va1⟩, ⟨va2, va3⟩, ⟨va4, va5⟩⟩ : V3))))
 subst_vars; rfl
theorem pCompose (pa0 pa1 pa2 pa3 pa4 pa5 pa6 pa7 pa8 pa9 pa10 pa11 pa12 pa13 pa14 pa15 pa16 pa17 pa18 pa19 pa20 pa21 pa22 pa23 : Int) (qa0 qa1 qa2 qa3 qa4 qa5 qa6 qa7 qa8 qa9 qa10 qa11 qa12 qa13 qa14 qa15 qa16 qa17 qa18 qa19 qa20 qa21 qa22 qa23 : Int) (w : World) : Calls Tryz.prog 57 [.agg #[.int .i64 pa0, .int .i64 pa1, .int .i64 pa2, .int .i64 pa3, .int .i64 pa4, .int .i64 pa5, .int .i64 pa6, .int .i64 pa7, .int .i64 pa8, .int .i64 pa9, .int .i64 pa10, .int .i64 pa11, .int .i64 pa12, .int .i64 pa13, .int .i64 pa14, .int .i64 pa15, .int .i64 pa16, .int .i64 pa17, .int .i64 pa18, .int .i64 pa19, .int .i64 pa20, .int .i64 pa21, .int .i64 pa22, .int .i64 pa23], .agg #[.int .i64 qa0, .int .i64 qa1, .int .i64 qa2, .int .i64 qa3, .int .i64 qa4, .int .i64 qa5, .int .i64 qa6, .int .i64 qa7, .int .i64 qa8, .int .i64 qa9, .int .i64 qa10, .int .i64 qa11, .int .i64 qa12, .int .i64 qa13, .int .i64 qa14, .int .i64 qa15, .int .i64 qa16, .int .i64 qa17, .int .i64 qa18, .int .i64 qa19, .int .i64 qa20, .int .i64 qa21, .int .i64 qa22, .int .i64 qa23]].toArray w (Rets (po (Po.mul (⟨⟨⟨⟨pa0, pa1⟩, ⟨pa2, pa3⟩, ⟨pa4, pa5⟩⟩, ⟨⟨pa6, pa7⟩, ⟨pa8, pa9⟩, ⟨pa10, pa11⟩⟩, ⟨⟨pa12, pa13⟩, ⟨pa14, pa15⟩, ⟨pa16, pa17⟩⟩⟩, ⟨⟨pa18, pa19⟩, ⟨pa20, pa21⟩, ⟨pa22, pa23⟩⟩⟩ : Po) (⟨⟨⟨⟨qa0, qa1⟩, ⟨qa2, qa3⟩, ⟨qa4, qa5⟩⟩, ⟨⟨qa6, qa7⟩, ⟨qa8, qa9⟩, ⟨qa10, qa11⟩⟩, ⟨⟨qa12, qa13⟩, ⟨qa14, qa15⟩, ⟨qa16, qa17⟩⟩⟩, ⟨⟨qa18, qa19⟩, ⟨qa20, qa21⟩, ⟨qa22, qa23⟩⟩⟩ : Po))) (w)) := by
 refine zX (n := 18) Tryz.func57 rfl rfl rfl ?_
 refine qK ?_
 refine qZ ?_
 refine kY 2 rfl rfl rfl rfl ?_; intro b2
 refine kY 3 rfl rfl rfl rfl ?_; intro b3
 refine yQ 4 ze77 rfl rfl rfl ?_; intro b4
 refine qJ ?_
 refine qQ ?_
 refine qK ?_
 refine qZ ?_
 refine qY (zJ 2 ty77 rfl rfl rfl) rfl rfl rfl ?_
 refine doL_callNewF 7 en96 rfl (fun w' _ => pMover _ _ _ _ _ _ _ _ _ _ _ _ _ _ _ _ _ _ _ _ _ _ _ _ w') rfl rfl ?_; intro b7
 refine qY (qX rfl) rfl rfl rfl ?_
 refine qJ ?_
 refine qQ ?_
 refine qK ?_
 refine yY 10 mo (by kernel_rfl) ?_
 simp only [List.take_succ_cons, List.take_zero, List.drop_succ_cons, List.drop_zero]
 refine qH (qV fa77_0 rfl) rfl rfl rfl ?_
 refine qH (zJ 2 ty74 rfl rfl rfl) rfl rfl rfl ?_
 refine qH (qV fa77_0 rfl) rfl rfl rfl ?_
 refine qH (zJ 3 ty74 rfl rfl rfl) rfl rfl rfl ?_
 refine yV (F := m3) (zQ en97 rfl (fun w _ => mCompose _ _ _ _ _ _ _ _ _ _ _ _ _ _ _ _ _ _ _ _ _ _ _ _ _ _ _ _ _ _ _ _ _ _ _ _  w)) rfl rfl rfl ?_; intro r12 hr12
 refine qH (qU rfl) rfl rfl rfl ?_
 refine qH (qV fa77_1 rfl) rfl rfl rfl ?_
 refine qH (zJ 3 ty75 rfl rfl rfl) rfl rfl rfl ?_
 refine yV (F := v3) (opV_callV en139 rfl rfl rfl (fun w k => pMove _ _ _ _ _ _ _ _ _ _ _ _ _ _ _ _ _ _ _ _ _ _ _ _ _ _ _ _ _ _ _ w (k.at (i := 7) rfl).2)) rfl rfl rfl ?_; intro r16 hr16
 refine qH (zH la77 rfl rfl) rfl rfl rfl ?_
 refine jX ?_
 refine yU ?_
 refine qG 4 ty77 rfl rfl rfl rfl rfl rfl rfl rfl ?_
 refine qJ ?_
 refine qQ ?_
 refine zV ?_
 refine zK (rs := [.cell 4 77]) rfl (resC (zU 4 rfl rfl ty77 rfl) (resN)) (congrArg (po) (?_ : ⟨⟨⟨⟨_, _⟩, ⟨_, _⟩, ⟨_, _⟩⟩, ⟨⟨_, _⟩, ⟨_, _⟩, ⟨_, _⟩⟩, ⟨⟨_, _⟩, ⟨_, _⟩, ⟨_, _⟩⟩⟩, ⟨⟨_, _⟩, ⟨_, _⟩, ⟨_, _⟩⟩⟩ = Po.mul (⟨⟨⟨⟨pa0, pa1⟩, ⟨pa2, pa3⟩, ⟨pa4, pa5⟩⟩, ⟨⟨pa6, pa7⟩, ⟨pa8, pa9⟩, ⟨pa10, pa11⟩⟩, ⟨⟨pa12, pa13⟩, ⟨pa14, pa15⟩, ⟨pa16, pa17⟩⟩⟩, ⟨⟨pa18, pa19⟩, ⟨pa20, pa21⟩, ⟨pa22, pa23⟩⟩⟩ : Po) (⟨⟨⟨⟨qa0, qa1⟩, ⟨qa2, qa3⟩, ⟨qa4, qa5⟩⟩, ⟨⟨qa6, qa7⟩, ⟨qa8, qa9⟩, ⟨qa10, qa11⟩⟩, ⟨⟨qa12, qa13⟩, ⟨qa14, qa15⟩, ⟨qa16, qa17⟩⟩⟩, ⟨⟨qa18, qa19⟩, ⟨qa20, qa21⟩, ⟨qa22, qa23⟩⟩⟩ : Po)))
 subst_vars; rfl
theorem qHK (pa0 pa1 pa2 pa3 pa4 pa5 pa6 pa7 pa8 pa9 pa10 pa11 pa12 pa13 pa14 pa15 pa16 pa17 pa18 pa19 pa20 pa21 pa22 pa23 : Int) (qa0 qa1 qa2 qa3 qa4 qa5 qa6 qa7 qa8 qa9 qa10 qa11 qa12 qa13 qa14 qa15 qa16 qa17 qa18 qa19 qa20 qa21 qa22 qa23 : Int) (w : World) : Calls Tryz.prog 68 [.agg #[.int .i64 pa0, .int .i64 pa1, .int .i64 pa2, .int .i64 pa3, .int .i64 pa4, .int .i64 pa5, .int .i64 pa6, .int .i64 pa7, .int .i64 pa8, .int .i64 pa9, .int .i64 pa10, .int .i64 pa11, .int .i64 pa12, .int .i64 pa13, .int .i64 pa14, .int .i64 pa15, .int .i64 pa16, .int .i64 pa17, .int .i64 pa18, .int .i64 pa19, .int .i64 pa20, .int .i64 pa21, .int .i64 pa22, .int .i64 pa23], .agg #[.int .i64 qa0, .int .i64 qa1, .int .i64 qa2, .int .i64 qa3, .int .i64 qa4, .int .i64 qa5, .int .i64 qa6, .int .i64 qa7, .int .i64 qa8, .int .i64 qa9, .int .i64 qa10, .int .i64 qa11, .int .i64 qa12, .int .i64 qa13, .int .i64 qa14, .int .i64 qa15, .int .i64 qa16, .int .i64 qa17, .int .i64 qa18, .int .i64 qa19, .int .i64 qa20, .int .i64 qa21, .int .i64 qa22, .int .i64 qa23]].toArray w (Rets (po (Po.mul (⟨⟨⟨⟨pa0, pa1⟩, ⟨pa2, pa3⟩, ⟨pa4, pa5⟩⟩, ⟨⟨pa6, pa7⟩, ⟨pa8, pa9⟩, ⟨pa10, pa11⟩⟩, ⟨⟨pa12, pa13⟩, ⟨pa14, pa15⟩, ⟨pa16, pa17⟩⟩⟩, ⟨⟨pa18, pa19⟩, ⟨pa20, pa21⟩, ⟨pa22, pa23⟩⟩⟩ : Po) (⟨⟨⟨⟨qa0, qa1⟩, ⟨qa2, qa3⟩, ⟨qa4, qa5⟩⟩, ⟨⟨qa6, qa7⟩, ⟨qa8, qa9⟩, ⟨qa10, qa11⟩⟩, ⟨⟨qa12, qa13⟩, ⟨qa14, qa15⟩, ⟨qa16, qa17⟩⟩⟩, ⟨⟨qa18, qa19⟩, ⟨qa20, qa21⟩, ⟨qa22, qa23⟩⟩⟩ : Po))) (w)) := by
 refine zX (n := 19) Tryz.func68 rfl rfl rfl ?_
 refine qK ?_
 refine qZ ?_
 refine kY 2 rfl rfl rfl rfl ?_; intro b2
 refine kY 3 rfl rfl rfl rfl ?_; intro b3
 refine yQ 4 ze77 rfl rfl rfl ?_; intro b4
 refine qJ ?_
 refine qQ ?_
 refine qK ?_
 refine yY 14 mo (by kernel_rfl) ?_
 simp only [List.take_succ_cons, List.take_zero, List.drop_succ_cons, List.drop_zero]
 refine qH (qV fa77_0 rfl) rfl rfl rfl ?_
 refine qH (zJ 2 ty74 rfl rfl rfl) rfl rfl rfl ?_
 refine qH (qV fa77_0 rfl) rfl rfl rfl ?_
 refine qH (zJ 3 ty74 rfl rfl rfl) rfl rfl rfl ?_
 refine yV (F := m3) (zQ en111 rfl (fun w _ => rCompose _ _ _ _ _ _ _ _ _ _ _ _ _ _ _ _ _ _ _ _ _ _ _ _ _ _ _ _ _ _ _ _ _ _ _ _  w)) rfl rfl rfl ?_; intro r9 hr9
 refine qH (qV fa77_1 rfl) rfl rfl rfl ?_
 refine qH (zJ 2 ty75 rfl rfl rfl) rfl rfl rfl ?_
 refine qH (qV fa77_0 rfl) rfl rfl rfl ?_
 refine qH (zJ 2 ty74 rfl rfl rfl) rfl rfl rfl ?_
 refine qH (qV fa77_1 rfl) rfl rfl rfl ?_
 refine qH (zJ 3 ty75 rfl rfl rfl) rfl rfl rfl ?_
 refine yV (F := v3) (zQ en63 rfl (fun w _ => rApply _ _ _ _ _ _ _ _ _ _ _ _ _ _ _ _ _ _ _ _ _ _ _ _  w)) rfl rfl rfl ?_; intro r16 hr16
 refine yV (F := v3) (zQ en62 rfl (fun w _ => rAddVec _ _ _ _ _ _ _ _ _ _ _ _  w)) rfl rfl rfl ?_; intro r17 hr17
 refine qH (zH la77 rfl rfl) rfl rfl rfl ?_
 refine jX ?_
 refine yU ?_
 refine qG 4 ty77 rfl rfl rfl rfl rfl rfl rfl rfl ?_
 refine qJ ?_
 refine qQ ?_
 refine zV ?_
 refine zK (rs := [.cell 4 77]) rfl (resC (zU 4 rfl rfl ty77 rfl) (resN)) (congrArg (po) (?_ : ⟨⟨⟨⟨_, _⟩, ⟨_, _⟩, ⟨_, _⟩⟩, ⟨⟨_, _⟩, ⟨_, _⟩, ⟨_, _⟩⟩, ⟨⟨_, _⟩, ⟨_, _⟩, ⟨_, _⟩⟩⟩, ⟨⟨_, _⟩, ⟨_, _⟩, ⟨_, _⟩⟩⟩ = Po.mul (⟨⟨⟨⟨pa0, pa1⟩, ⟨pa2, pa3⟩, ⟨pa4, pa5⟩⟩, ⟨⟨pa6, pa7⟩, ⟨pa8, pa9⟩, ⟨pa10, pa11⟩⟩, ⟨⟨pa12, pa13⟩, ⟨pa14, pa15⟩, ⟨pa16, pa17⟩⟩⟩, ⟨⟨pa18, pa19⟩, ⟨pa20, pa21⟩, ⟨pa22, pa23⟩⟩⟩ : Po) (⟨⟨⟨⟨qa0, qa1⟩, ⟨qa2, qa3⟩, ⟨qa4, qa5⟩⟩, ⟨⟨qa6, qa7⟩, ⟨qa8, qa9⟩, ⟨qa10, qa11⟩⟩, ⟨⟨qa12, qa13⟩, ⟨qa14, qa15⟩, ⟨qa16, qa17⟩⟩⟩, ⟨⟨qa18, qa19⟩, ⟨qa20, qa21⟩, ⟨qa22, qa23⟩⟩⟩ : Po)))
 subst_vars; rfl
theorem pApply (pa0 pa1 pa2 pa3 pa4 pa5 pa6 pa7 pa8 pa9 pa10 pa11 pa12 pa13 pa14 pa15 pa16 pa17 pa18 pa19 pa20 pa21 pa22 pa23 : Int) (va0 va1 va2 va3 va4 va5 : Int) (w : World) : Calls Tryz.prog 116 [.agg #[.int .i64 pa0, .int .i64 pa1, .int .i64 pa2, .int .i64 pa3, .int .i64 pa4, .int .i64 pa5, .int .i64 pa6, .int .i64 pa7, .int .i64 pa8, .int .i64 pa9, .int .i64 pa10, .int .i64 pa11, .int .i64 pa12, .int .i64 pa13, .int .i64 pa14, .int .i64 pa15, .int .i64 pa16, .int .i64 pa17, .int .i64 pa18, .int .i64 pa19, .int .i64 pa20, .int .i64 pa21, .int .i64 pa22, .int .i64 pa23], .agg #[.int .i64 va0, .int .i64 va1, .int .i64 va2, .int .i64 va3, .int .i64 va4, .int .i64 va5]].toArray w (Rets (v3 (Po.app (⟨⟨⟨⟨pa0, pa1⟩, ⟨pa2, pa3⟩, ⟨pa4, pa5⟩⟩, ⟨⟨pa6, pa7⟩, ⟨pa8, pa9⟩, ⟨pa10, pa11⟩⟩, ⟨⟨pa12, pa13⟩, ⟨pa14, pa15⟩, ⟨pa16, pa17⟩⟩⟩, ⟨⟨pa18, pa19⟩, ⟨pa20, pa21⟩, ⟨pa22, pa23⟩⟩⟩ : Po) (⟨⟨va0, va1⟩, ⟨va2, va3⟩, ⟨va4, va5⟩⟩ : V3))) (w)) := by
 refine zX (n := 9) Tryz.func116 rfl rfl rfl ?_
 refine qK ?_
 refine qZ ?_
 refine kY 2 rfl rfl rfl rfl ?_; intro b2
 refine kY 3 rfl rfl rfl rfl ?_; intro b3
 refine yQ 4 ze75 rfl rfl rfl ?_; intro b4
 refine qJ ?_
 refine qQ ?_
 refine qK ?_
 refine yY 4 mo (by kernel_rfl) ?_
 simp only [List.take_succ_cons, List.take_zero, List.drop_succ_cons, List.drop_zero]
 refine qH (zJ 2 ty77 rfl rfl rfl) rfl rfl rfl ?_
 refine doG_callNewF en96 rfl (fun w' _ => pMover _ _ _ _ _ _ _ _ _ _ _ _ _ _ _ _ _ _ _ _ _ _ _ _ w') rfl rfl rfl ?_
 refine qH (zJ 3 ty75 rfl rfl rfl) rfl rfl rfl ?_
 refine doG_callFG (F := v3) (first := fun _ => []) (cap := fun b => [.pointer (some ⟨b, 0, none⟩)]) 6 rfl (fun _ => rfl) en139 (fun u => rfl) (fun b w _ hb => pMove _ _ _ _ _ _ _ _ _ _ _ _ _ _ _ _ _ _ _ _ _ _ _ _ _ _ _ _ _ _ _ w hb) (fun u => rfl) (by decide) rfl ?_; intro r8 hr8
 refine jX ?_
 refine tail_ghost ?_; intro u6
 refine yU ?_
 refine qG 4 ty75 rfl rfl rfl rfl rfl rfl rfl rfl ?_
 refine qJ ?_
 refine qQ ?_
 refine zV ?_
 refine zK (rs := [.cell 4 75]) rfl (resC (zU 4 rfl rfl ty75 rfl) (resN)) (congrArg (v3) (?_ : ⟨⟨_, _⟩, ⟨_, _⟩, ⟨_, _⟩⟩ = Po.app (⟨⟨⟨⟨pa0, pa1⟩, ⟨pa2, pa3⟩, ⟨pa4, pa5⟩⟩, ⟨⟨pa6, pa7⟩, ⟨pa8, pa9⟩, ⟨pa10, pa11⟩⟩, ⟨⟨pa12, pa13⟩, ⟨pa14, pa15⟩, ⟨pa16, pa17⟩⟩⟩, ⟨⟨pa18, pa19⟩, ⟨pa20, pa21⟩, ⟨pa22, pa23⟩⟩⟩ : Po) (⟨⟨va0, va1⟩, ⟨va2, va3⟩, ⟨va4, va5⟩⟩ : V3)))
 subst_vars; rfl
theorem qApply (pa0 pa1 pa2 pa3 pa4 pa5 pa6 pa7 pa8 pa9 pa10 pa11 pa12 pa13 pa14 pa15 pa16 pa17 pa18 pa19 pa20 pa21 pa22 pa23 : Int) (va0 va1 va2 va3 va4 va5 : Int) (w : World) : Calls Tryz.prog 32 [.agg #[.int .i64 pa0, .int .i64 pa1, .int .i64 pa2, .int .i64 pa3, .int .i64 pa4, .int .i64 pa5, .int .i64 pa6, .int .i64 pa7, .int .i64 pa8, .int .i64 pa9, .int .i64 pa10, .int .i64 pa11, .int .i64 pa12, .int .i64 pa13, .int .i64 pa14, .int .i64 pa15, .int .i64 pa16, .int .i64 pa17, .int .i64 pa18, .int .i64 pa19, .int .i64 pa20, .int .i64 pa21, .int .i64 pa22, .int .i64 pa23], .agg #[.int .i64 va0, .int .i64 va1, .int .i64 va2, .int .i64 va3, .int .i64 va4, .int .i64 va5]].toArray w (Rets (v3 (Po.app (⟨⟨⟨⟨pa0, pa1⟩, ⟨pa2, pa3⟩, ⟨pa4, pa5⟩⟩, ⟨⟨pa6, pa7⟩, ⟨pa8, pa9⟩, ⟨pa10, pa11⟩⟩, ⟨⟨pa12, pa13⟩, ⟨pa14, pa15⟩, ⟨pa16, pa17⟩⟩⟩, ⟨⟨pa18, pa19⟩, ⟨pa20, pa21⟩, ⟨pa22, pa23⟩⟩⟩ : Po) (⟨⟨va0, va1⟩, ⟨va2, va3⟩, ⟨va4, va5⟩⟩ : V3))) (w)) := by
 refine zX (n := 12) Tryz.func32 rfl rfl rfl ?_
 refine qK ?_
 refine qZ ?_
 refine kY 2 rfl rfl rfl rfl ?_; intro b2
 refine kY 3 rfl rfl rfl rfl ?_; intro b3
 refine yQ 4 ze75 rfl rfl rfl ?_; intro b4
 refine qJ ?_
 refine qQ ?_
 refine qK ?_
 refine yY 7 mo (by kernel_rfl) ?_
 simp only [List.take_succ_cons, List.take_zero, List.drop_succ_cons, List.drop_zero]
 refine qH (qV fa77_1 rfl) rfl rfl rfl ?_
 refine qH (zJ 2 ty75 rfl rfl rfl) rfl rfl rfl ?_
 refine qH (qV fa77_0 rfl) rfl rfl rfl ?_
 refine qH (zJ 2 ty74 rfl rfl rfl) rfl rfl rfl ?_
 refine qH (zJ 3 ty75 rfl rfl rfl) rfl rfl rfl ?_
 refine yV (F := v3) (zQ en63 rfl (fun w _ => rApply _ _ _ _ _ _ _ _ _ _ _ _ _ _ _ _ _ _ _ _ _ _ _ _  w)) rfl rfl rfl ?_; intro r10 hr10
 refine yV (F := v3) (zQ en62 rfl (fun w _ => rAddVec _ _ _ _ _ _ _ _ _ _ _ _  w)) rfl rfl rfl ?_; intro r11 hr11
 refine jX ?_
 refine yU ?_
 refine qG 4 ty75 rfl rfl rfl rfl rfl rfl rfl rfl ?_
 refine qJ ?_
 refine qQ ?_
 refine zV ?_
 refine zK (rs := [.cell 4 75]) rfl (resC (zU 4 rfl rfl ty75 rfl) (resN)) (congrArg (v3) (?_ : ⟨⟨_, _⟩, ⟨_, _⟩, ⟨_, _⟩⟩ = Po.app (⟨⟨⟨⟨pa0, pa1⟩, ⟨pa2, pa3⟩, ⟨pa4, pa5⟩⟩, ⟨⟨pa6, pa7⟩, ⟨pa8, pa9⟩, ⟨pa10, pa11⟩⟩, ⟨⟨pa12, pa13⟩, ⟨pa14, pa15⟩, ⟨pa16, pa17⟩⟩⟩, ⟨⟨pa18, pa19⟩, ⟨pa20, pa21⟩, ⟨pa22, pa23⟩⟩⟩ : Po) (⟨⟨va0, va1⟩, ⟨va2, va3⟩, ⟨va4, va5⟩⟩ : V3)))
 subst_vars; rfl
end Go.Proofs.YtmbnpjpggccefaaGreat
namespace Go.Proofs.YtmbnpjpggccefaaGreat.Od
open Go.Rx Rt Go.Sx Go.RowKit
noncomputable def o_mRound : List PV → Option (Bool × Ret) := fun ps => match ps with
 | [.n .i64 n, .n .i64 k] => some (decide (0 < k ∧ k ≤ 9223372036854775807), .v (.n .i64 (n % k)))
 | _ => none
theorem ok_mRound : OneOk Tryz.prog 15 o_mRound := by
 intro ps r h
 unfold o_mRound at h
 split at h
 ·simp only [Option.some.injEq, Prod.mk.injEq] at h
  obtain ⟨hg, rfl⟩ := h
  exact qQY (zG Tryz.func15 (by kernel_rfl) (by kernel_rfl)) rfl rfl (fun w => mRound _ _ (of_decide_eq_true hg) w)
 ·cases h
noncomputable def L1 : OrL := (15, o_mRound) :: ([] : OrL)
theorem L1_ok : AllP (fun x : Nat × (List PV → Option (Bool × Ret)) => OneOk Tryz.prog x.1 x.2) L1 := ⟨ok_mRound, trivial⟩
noncomputable def o_iOf : List PV → Option (Bool × Ret) := fun ps => match ps with
 | [.n .i64 x] => some (true, .v (.a (ivC (Iv.of x))))
 | _ => none
theorem ok_iOf : OneOk Tryz.prog 99 o_iOf := by
 intro ps r h
 unfold o_iOf at h
 split at h
 ·simp only [Option.some.injEq, Prod.mk.injEq] at h
  obtain ⟨hg, rfl⟩ := h
  exact qQY (zG Tryz.func99 (by kernel_rfl) (by kernel_rfl)) rfl rfl (fun w => iOf _ w)
 ·cases h
noncomputable def L2 : OrL := (99, o_iOf) :: L1
theorem L2_ok : AllP (fun x : Nat × (List PV → Option (Bool × Ret)) => OneOk Tryz.prog x.1 x.2) L2 := ⟨ok_iOf, L1_ok⟩
noncomputable def o_pApply : List PV → Option (Bool × Ret) := fun ps => match ps with
 | [.a p', .a v'] => (poD p').bind fun p => (v3D v').bind fun v => some (true, .v (.a (v3C (Po.app p v))))
 | _ => none
theorem ok_pApply : OneOk Tryz.prog 116 o_pApply := by
 intro ps r h
 unfold o_pApply at h
 split at h
 ·simp only [Option.bind_eq_some_iff, Option.some.injEq, Prod.mk.injEq] at h
  obtain ⟨p, hp, v, hv, hg, rfl⟩ := h
  rw [poD_eq hp]
  rw [v3D_eq hv]
  exact qQY (zG Tryz.func116 (by kernel_rfl) (by kernel_rfl)) rfl rfl (fun w => pApply _ _ _ _ _ _ _ _ _ _ _ _ _ _ _ _ _ _ _ _ _ _ _ _ _ _ _ _ _ _ w)
 ·cases h
noncomputable def L3 : OrL := (116, o_pApply) :: L2
theorem L3_ok : AllP (fun x : Nat × (List PV → Option (Bool × Ret)) => OneOk Tryz.prog x.1 x.2) L3 := ⟨ok_pApply, L2_ok⟩
noncomputable def o_mApply : List PV → Option (Bool × Ret) := fun ps => match ps with
 | [.a m', .a v'] => (m3D m').bind fun m => (v3D v').bind fun v => some (true, .v (.a (v3C (M3.apply m v))))
 | _ => none
theorem ok_mApply : OneOk Tryz.prog 141 o_mApply := by
 intro ps r h
 unfold o_mApply at h
 split at h
 ·simp only [Option.bind_eq_some_iff, Option.some.injEq, Prod.mk.injEq] at h
  obtain ⟨m, hm, v, hv, hg, rfl⟩ := h
  rw [m3D_eq hm]
  rw [v3D_eq hv]
  exact qQY (zG Tryz.func141 (by kernel_rfl) (by kernel_rfl)) rfl rfl (fun w => mApply _ _ _ _ _ _ _ _ _ _ _ _ _ _ _ _ _ _ _ _ _ _ _ _ w)
 ·cases h
noncomputable def L4 : OrL := (141, o_mApply) :: L3
theorem L4_ok : AllP (fun x : Nat × (List PV → Option (Bool × Ret)) => OneOk Tryz.prog x.1 x.2) L4 := ⟨ok_mApply, L3_ok⟩
noncomputable def o_mPoint : List PV → Option (Bool × Ret) := fun ps => match ps with
 | [.a z'] => (z3D z').bind fun z => some (true, .v (.a (v3C (V3.of z))))
 | _ => none
theorem ok_mPoint : OneOk Tryz.prog 59 o_mPoint := by
 intro ps r h
 unfold o_mPoint at h
 split at h
 ·simp only [Option.bind_eq_some_iff, Option.some.injEq, Prod.mk.injEq] at h
  obtain ⟨z, hz, hg, rfl⟩ := h
  rw [z3D_eq hz]
  exact qQY (zG Tryz.func59 (by kernel_rfl) (by kernel_rfl)) rfl rfl (fun w => mPoint _ _ _ w)
 ·cases h
noncomputable def L5 : OrL := (59, o_mPoint) :: L4
theorem L5_ok : AllP (fun x : Nat × (List PV → Option (Bool × Ret)) => OneOk Tryz.prog x.1 x.2) L5 := ⟨ok_mPoint, L4_ok⟩
set_option maxRecDepth 100000 in
theorem tr_sDot (nx : Int) (ny : Int) (nz : Int) (v0 : Int) (v1 : Int) (v2 : Int) (v3 : Int) (v4 : Int) (v5 : Int) : runK T (OrL.k L5) 60 94 [.a [.n .i64 nx, .n .i64 ny, .n .i64 nz], .a [.n .i64 v0, .n .i64 v1, .n .i64 v2, .n .i64 v3, .n .i64 v4, .n .i64 v5]] =
 bif (decide (nx < (-16384))) then some (.v (.t [.n .i64 0, .n .i64 0]), [])
 else bif (decide (16384 < nx)) then some (.v (.t [.n .i64 0, .n .i64 0]), [])
 else bif (decide (ny < (-16384))) then some (.v (.t [.n .i64 0, .n .i64 0]), [])
 else bif (decide (16384 < ny)) then some (.v (.t [.n .i64 0, .n .i64 0]), [])
 else bif (decide (nz < (-16384))) then some (.v (.t [.n .i64 0, .n .i64 0]), [])
 else bif (decide (16384 < nz)) then some (.v (.t [.n .i64 0, .n .i64 0]), [])
 else bif (!((decide (nx = 0)) && ((decide (ny = 0)) && ((decide (nz = 0)) && true)))) then (bif (decide (v0 < (-268435456))) then some (.v (.t [.n .i64 0, .n .i64 0]), [])
  else bif (decide (v1 < v0)) then some (.v (.t [.n .i64 0, .n .i64 0]), [])
  else bif (decide (268435456 < v1)) then some (.v (.t [.n .i64 0, .n .i64 0]), [])
  else bif (decide (v2 < (-268435456))) then some (.v (.t [.n .i64 0, .n .i64 0]), [])
  else bif (decide (v3 < v2)) then some (.v (.t [.n .i64 0, .n .i64 0]), [])
  else bif (decide (268435456 < v3)) then some (.v (.t [.n .i64 0, .n .i64 0]), [])
  else bif (decide (v4 < (-268435456))) then some (.v (.t [.n .i64 0, .n .i64 0]), [])
  else bif (decide (v5 < v4)) then some (.v (.t [.n .i64 0, .n .i64 0]), [])
  else bif (decide (268435456 < v5)) then some (.v (.t [.n .i64 0, .n .i64 0]), [])
  else some (.v (.t [.n .i64 (IntKind.i64.wrap ((IntKind.i64.wrap ((IntKind.i64.wrap (0 + (min (IntKind.i64.wrap (nx * v0)) (IntKind.i64.wrap (nx * v1))))) + (min (IntKind.i64.wrap (ny * v2)) (IntKind.i64.wrap (ny * v3))))) + (min (IntKind.i64.wrap (nz * v4)) (IntKind.i64.wrap (nz * v5))))), .n .i64 (IntKind.i64.wrap ((IntKind.i64.wrap ((IntKind.i64.wrap (0 + (max (IntKind.i64.wrap (nx * v0)) (IntKind.i64.wrap (nx * v1))))) + (max (IntKind.i64.wrap (ny * v2)) (IntKind.i64.wrap (ny * v3))))) + (max (IntKind.i64.wrap (nz * v4)) (IntKind.i64.wrap (nz * v5)))))]), []))
 else some (.v (.t [.n .i64 0, .n .i64 0]), []) := by kernel_rfl
noncomputable def dot (nx ny nz v0 v1 v2 v3 v4 v5 : Int) : Int × Int := (bif (decide (nx < (-16384))) then (0, 0) else (bif (decide (16384 < nx)) then (0, 0) else (bif (decide (ny < (-16384))) then (0, 0) else (bif (decide (16384 < ny)) then (0, 0) else (bif (decide (nz < (-16384))) then (0, 0) else (bif (decide (16384 < nz)) then (0, 0) else (bif (!((decide (nx = 0)) && ((decide (ny = 0)) && ((decide (nz = 0)) && true)))) then (bif (decide (v0 < (-268435456))) then (0, 0) else (bif (decide (v1 < v0)) then (0, 0) else (bif (decide (268435456 < v1)) then (0, 0) else (bif (decide (v2 < (-268435456))) then (0, 0) else (bif (decide (v3 < v2)) then (0, 0) else (bif (decide (268435456 < v3)) then (0, 0) else (bif (decide (v4 < (-268435456))) then (0, 0) else (bif (decide (v5 < v4)) then (0, 0) else (bif (decide (268435456 < v5)) then (0, 0) else ((IntKind.i64.wrap ((IntKind.i64.wrap ((IntKind.i64.wrap (0 + (min (IntKind.i64.wrap (nx * v0)) (IntKind.i64.wrap (nx * v1))))) + (min (IntKind.i64.wrap (ny * v2)) (IntKind.i64.wrap (ny * v3))))) + (min (IntKind.i64.wrap (nz * v4)) (IntKind.i64.wrap (nz * v5))))), (IntKind.i64.wrap ((IntKind.i64.wrap ((IntKind.i64.wrap (0 + (max (IntKind.i64.wrap (nx * v0)) (IntKind.i64.wrap (nx * v1))))) + (max (IntKind.i64.wrap (ny * v2)) (IntKind.i64.wrap (ny * v3))))) + (max (IntKind.i64.wrap (nz * v4)) (IntKind.i64.wrap (nz * v5))))))))))))))) else (0, 0))))))))
def qGZ : Int × Int → Option (Ret × Mem) := fun v => some (.v (.t [.n .i64 v.1, .n .i64 v.2]), [])
theorem sp_sDot (nx ny nz v0 v1 v2 v3 v4 v5 : Int) : runK T (OrL.k L5) 60 94 [.a [.n .i64 nx, .n .i64 ny, .n .i64 nz], .a [.n .i64 v0, .n .i64 v1, .n .i64 v2, .n .i64 v3, .n .i64 v4, .n .i64 v5]] = some (.v (.t [.n .i64 (dot nx ny nz v0 v1 v2 v3 v4 v5).1, .n .i64 (dot nx ny nz v0 v1 v2 v3 v4 v5).2]), []) := by
 rw [tr_sDot]
 exact ((qYQ (F := qGZ) rfl (qYQ (F := qGZ) rfl (qYQ (F := qGZ) rfl (qYQ (F := qGZ) rfl (qYQ (F := qGZ) rfl (qYQ (F := qGZ) rfl (qYQ (F := qGZ) (qYQ (F := qGZ) rfl (qYQ (F := qGZ) rfl (qYQ (F := qGZ) rfl (qYQ (F := qGZ) rfl (qYQ (F := qGZ) rfl (qYQ (F := qGZ) rfl (qYQ (F := qGZ) rfl (qYQ (F := qGZ) rfl (qYQ (F := qGZ) rfl rfl))))))))) rfl))))))) : _ = qGZ (dot nx ny nz v0 v1 v2 v3 v4 v5))
noncomputable def o_sDot : List PV → Option (Bool × Ret) := fun ps => match ps with
 | [.a z', .a v'] => (z3D z').bind fun z => (v3D v').bind fun v => some (true, .v (.t [.n .i64 (dot z.x z.y z.z v.x.lo v.x.hi v.y.lo v.y.hi v.z.lo v.z.hi).1, .n .i64 (dot z.x z.y z.z v.x.lo v.x.hi v.y.lo v.y.hi v.z.lo v.z.hi).2]))
 | _ => none
theorem ok_sDot : OneOk Tryz.prog 94 o_sDot := by
 intro ps r h
 unfold o_sDot at h
 split at h
 ·simp only [Option.bind_eq_some_iff, Option.some.injEq, Prod.mk.injEq] at h
  obtain ⟨z, hz, v, hv, hg, rfl⟩ := h
  rw [z3D_eq hz]
  rw [v3D_eq hv]
  exact uW tabOk mixed (OrL.ok L5_ok) (sp_sDot _ _ _ _ _ _ _ _ _)
 ·cases h
noncomputable def L6 : OrL := (94, o_sDot) :: L5
theorem L6_ok : AllP (fun x : Nat × (List PV → Option (Bool × Ret)) => OneOk Tryz.prog x.1 x.2) L6 := ⟨ok_sDot, L5_ok⟩
theorem bz {α : Type} {p : Prop} [Decidable p] {x z : α} (h : ¬ p → x = z) : (bif decide p then z else x) = z := by
 by_cases hp : p
 ·rw [decide_eq_true hp]; rfl
 ·rw [decide_eq_false hp]; exact h hp
end Go.Proofs.YtmbnpjpggccefaaGreat.Od
namespace Go.Rx
open Go.RowKit Go.Sx
theorem own_mem {D : Nat → Prop} {G : World → Prop} {e sz cap k : Nat} {a : Option Addr} {ys : List Value} {w : World} (hd : qGK D G) (hG : G w) (hi : ∀ w, G w → OwnF 0 e sz a cap k ys w) : ∀ ad, a = some ad → D ad.block := by
 rintro ad rfl
 apply Classical.byContradiction
 intro hn
 obtain ⟨_, h1⟩ := hi w hG
 rcases h1 with ⟨h1, _⟩ | ⟨g, cp, cur, hv, _, hb, _, _, hs, _⟩
 ·cases h1
 ·simp only [Value.slice.injEq, Option.some.injEq] at hv
  obtain ⟨rfl, _, rfl⟩ := hv
  have hlt : g < w.heap.size := uQ hb
  have hG' : G { w with heap := w.heap.setIfInBounds g (.cells (cur.push (.bool true)) e (0, 0)) } := hd w _ (fun k hk => by
   have e : g ≠ k := fun e => hn (e ▸ hk)
   show (w.heap.setIfInBounds g _)[k]? = _
   exact Array.getElem?_setIfInBounds_ne e) hG
  obtain ⟨_, h2⟩ := hi _ hG'
  rcases h2 with ⟨h2, _⟩ | ⟨g', cp', cur', hv', _, hb', _, _, hs', _⟩
  ·cases h2
  ·simp only [Value.slice.injEq, Option.some.injEq, Addr.mk.injEq] at hv'
   obtain ⟨⟨rfl, _⟩, _, rfl⟩ := hv'
   have hb2 : (w.heap.setIfInBounds g (.cells (cur.push (.bool true)) e (0, 0)))[g]? = some (.cells cur' e (0, 0)) := hb'
   rw [Array.getElem?_setIfInBounds_self_of_lt hlt] at hb2
   simp only [Option.some.injEq, Obj.cells.injEq] at hb2
   rw [← hb2.1, Array.size_push, hs] at hs'
   omega
theorem rets_ownslc {Φ : Option Addr × Nat → Prop} {e n sz : Nat} {rows : List (List Value)} {ys : List Value} {w w' : World} {en : Ending} (hs : ∀ a c w, OwnF 0 e sz a c n ys w → SlcIs sz a rows w)
  (h : RetsF Φ (fun x => .slice x.1 n x.2) (fun x => OwnF 0 e sz x.1 x.2 n ys) w en w') : RetsF Φ (fun x => .slice x.1 n x.2) (fun x => SlcIs sz x.1 rows) w en w' := by
 obtain ⟨x, hx, he, hg, D, h1, h2, h3⟩ := h
 exact ⟨x, hx, he, hg, ownD x.1, slc_dep _ _ _, fun k ⟨ad, ha, hk⟩ => h2 k (hk ▸ own_mem h1 h3 (fun _ h => h) ad ha), hs _ _ _ h3⟩
theorem al_flat {F : Nat → Prop} {w : World} {sz : Nat} {rows : List (List PV)} (hs : qGV sz rows = true) : Al (Al (RP F w)) rows (qWZ rows) ∧ (∀ v ∈ qWZ rows, ∀ u ∈ v, u.oneCell' = true) := by
 unfold qWZ
 refine ⟨⟨by simp, fun i r v hr hv => ?_⟩, fun v hv u hu => ?_⟩
 ·rw [List.getElem?_map, hr] at hv
  cases hv
  refine ⟨by simp, fun j p u hp hu => ?_⟩
  rw [List.getElem?_map, hp] at hu
  cases hu
  exact (val1_rp ((flatRows_at hs (List.mem_of_getElem? hr)).2 p (List.mem_of_getElem? hp))).1
 ·obtain ⟨r, hr, rfl⟩ := List.mem_map.1 hv
  obtain ⟨p, hp, rfl⟩ := List.mem_map.1 hu
  exact (val1_rp (F := F) (w := w) ((flatRows_at hs hr).2 p hp)).2
theorem snd_toldOw {P : Program} {f : Nat} {ps : List PV} {e sz : Nat} {rows : List (List PV)} {Φ : Option Addr × Nat → Prop} (hent : jU P f) (hs : qGV sz rows = true) (h0 : 0 < sz)
  (h : ∀ (w : World) (F : Nat → Prop) (vals : List Value), (∀ k, F k → k < w.heap.size) → Al (RP F w) ps vals → Calls P f vals.toArray w (RetsF Φ (fun x => .slice x.1 rows.length x.2) (fun x => OwnF 0 e sz x.1 x.2 rows.length (qWZ rows).flatten) w)) : SndA1 P f ps (.ow e sz rows) := by
 refine ⟨hent, fun w F vals hF hal => (h w F vals hF hal).mono ?_⟩
 rintro en w' ⟨x, hx, rfl, hg, D, h1, h2, h3⟩
 have hal := al_flat (F := F) (w := w') hs
 refine ⟨_, F, rfl, hg, fun k hk => hk, fun k hk => .inl hk, x.1, x.2, qWZ rows, rfl, h0, hal.1, fun r hr => (flatRows_at hs hr).1, hal.2, h3, fun b hb => ?_⟩
 obtain ⟨ad, ha, rfl⟩ := Option.map_eq_some_iff.1 hb
 have hD := h2 _ (own_mem h1 h3 (fun _ h => h) ad ha)
 exact ⟨fun hk => by have := hF _ hk; omega, hD.1, hD.2⟩
end Go.Rx
namespace Go.Sx
def JB (j : J) : Prop := -1000000 ≤ j.lo ∧ j.lo ≤ j.hi ∧ j.hi ≤ 1000000
theorem jointOf_b (L : List Int) (p : Nat) (k : Int) : JB (qGJ L p k).1 := by
 by_cases h0 : qQH (srcR L (p + 2) 8) = 0
 ·rw [jointOf_fix h0]
  exact ⟨by show (-1000000 : Int) ≤ 0; omega, by show (0 : Int) ≤ 0; omega, by show (0 : Int) ≤ 1000000; omega⟩
 ·by_cases h : qQH (srcR L (p + 2) 8) = 4 ∨ qQH (srcR L (p + 2) 8) = 5
  ·rw [qXU h]
   have a := qGX L (jQ p k) (k := 3) (by decide)
   have b := qGX L (jQ p k + 1) (k := 4) (by decide)
   unfold JB
   dsimp only
   omega
  ·rw [jointOf_tu h0 h]
   have a := qGX L (jQ p k) (k := 5) (by decide)
   have b := qGX L (jQ p k + 1) (k := 4) (by decide)
   have c := qGX L (jQ p k + 2) (k := 3) (by decide)
   unfold JB
   dsimp only
   rw [Int.tdiv_eq_ediv_of_nonneg (a := (1 + srcR L (jQ p k + 1) 4) * 65536) (by omega), show (-srcR L (jQ p k) 5 * 65536).tdiv 8 = -(srcR L (jQ p k) 5 * 8192) by
    rw [show -srcR L (jQ p k) 5 * 65536 = -(srcR L (jQ p k) 5 * 8192) * 8 by omega]
    exact Int.mul_tdiv_cancel _ (by decide)]
   omega
theorem jsOf_b (L : List Int) (i : Nat) : ∀ k, ∀ j ∈ (jsOf L i k).1, JB j
 | 0, j, h => by cases h
 | k + 1, j, h => by
  rcases List.mem_append.1 (show j ∈ (jsOf L i k).1 ++ [(qGJ L (jsOf L i k).2 (k : Int)).1] from h) with h | h
  ·exact jsOf_b L i k j h
  ·obtain rfl := List.mem_singleton.1 h
   exact jointOf_b _ _ _
def ivc (v : Iv) : List Value := [.int .i64 v.lo, .int .i64 v.hi]
def bxW (l : List Int) (q : Nat) (d : Int) : Int × Nat :=
 if srcR l q 5 = 0 then (d, q + 1) else if srcR l q 5 = 1 ∨ srcR l q 5 = 2 then (srcR l (q + 1) 3000, q + 2) else if srcR l q 5 = 3 then (srcR l (q + 1) 200, q + 2) else (0, q + 1)
def bxLo (l : List Int) (q : Nat) (j : J) : Int := j.lo + srcR l q (j.hi - j.lo + 1)
def bxs (l : List Int) (js : List J) : Nat → List Iv × Nat
 | 0 => ([], 0)
 | k + 1 => match js[k]? with
  | some j => ((bxs l js k).1 ++ [⟨bxLo l (bxs l js k).2 j, min j.hi (bxLo l (bxs l js k).2 j + (bxW l ((bxs l js k).2 + 1) (j.hi - j.lo)).1)⟩], (bxW l ((bxs l js k).2 + 1) (j.hi - j.lo)).2)
  | none => bxs l js k
theorem bx_step {l : List Int} {js : List J} {k q : Nat} {j : J} {rows : List Iv} {r x : Int} {q2 : Nat} (hjk : js[k]? = some j) (h : bxs l js k = (rows, q)) (hr : r = srcR l q (j.hi - j.lo + 1)) (hw : bxW l (q + 1) (j.hi - j.lo) = (x, q2)) :
  bxs l js (k + 1) = (rows ++ [⟨j.lo + r, min j.hi (j.lo + r + x)⟩], q2) := by
 simp only [bxs, hjk, h, hw, bxLo, ← hr]
theorem bxW_0 {l : List Int} {q : Nat} {d r : Int} (hr : r = srcR l q 5) (h : r = 0) : bxW l q d = (d, q + 1) := if_pos (hr ▸ h)
theorem bxW_1 {l : List Int} {q : Nat} {d r x : Int} (hr : r = srcR l q 5) (h : r = 1 ∨ r = 2) (hx : x = srcR l (q + 1) 3000) : bxW l q d = (x, q + 1 + 1) := by
 unfold bxW
 rw [← hr, if_neg (by omega), if_pos h, hx]
theorem bxW_3 {l : List Int} {q : Nat} {d r x : Int} (hr : r = srcR l q 5) (h : r = 3) (hx : x = srcR l (q + 1) 200) : bxW l q d = (x, q + 1 + 1) := by
 unfold bxW
 rw [← hr, if_neg (by omega), if_neg (by omega), if_pos h, hx]
theorem bxW_4 {l : List Int} {q : Nat} {d r : Int} (hr : r = srcR l q 5) (h0 : ¬ r = 0) (h1 : ¬ r = 1) (h2 : ¬ r = 2) (h3 : ¬ r = 3) : bxW l q d = (0, q + 1) := by
 unfold bxW
 rw [← hr, if_neg h0, if_neg (by omega), if_neg h3]
def ivC (rows : List Iv) : List Value := (rows.map ivc).flatten
theorem ivC_snoc (rows : List Iv) (v : Iv) : ivC (rows ++ [v]) = ivC rows ++ ivc v := by simp [ivC]
theorem rows2 (l : List Iv) : ∀ r ∈ l.map ivc, r.length = 2 := fun r hr => by
 obtain ⟨v, _, rfl⟩ := List.mem_map.1 hr
 rfl
theorem iv_slc {rows : List Iv} {k cap : Nat} {a : Option Addr} {e : TypeId} {w : World} (hl : rows.length = k) (h : OwnF 0 e 2 a cap k (ivC rows) w) : SlcIs 2 a (rows.map ivc) w := by
 refine zZQ (m := 0) (e := e) (cap := cap) (rows2 _) ?_
 rw [List.length_map, hl]
 exact h
end Go.Sx
namespace Go.Sx
section
variable {P : Program} {w0 : Base} {S : Slots} {H : Heap} {d : Option Tmp} {ty : TypeId} {pos : String} {af : Array Edge} {g : Option (Nat × Bool)}
def fldB (P : Program) (s f off : Nat) : Bool :=
 match P.underlying s with
 | some (.struct fields) => match fields[f]? with
  | some fld => fld.offset == off && tyB P fld.type false 1
  | none => false
 | _ => false
theorem opV_field1 {s f off' : Nat} {x : Operand} {vs : Array Value} {v : Value} (hF : fldB P s f off' = true) (hx : ev S x = some (.agg vs)) (hv : vs[off']? = some v) :
  OpV P w0 S H ⟨d, .field s x f, ty, pos, af, g⟩ v :=
 uG (by simp [kJ, Op.operands, hx]) rfl fun w _ => by
  unfold fldB at hF
  cases hu : P.underlying s with
  | none => simp [hu] at hF
  | some ds =>
   cases ds <;> simp [hu] at hF
   rename_i fields
   cases hf : fields[f]? with
   | none => simp [hf] at hF
   | some fld =>
    simp [hf] at hF
    obtain ⟨h1, h2⟩ := hF
    subst h1
    simp [execOp, jH hx, Instr.field, run_underlying hu, hf, asAgg, part, qGQ h2, hv]
end
def motV (ft fs fr : Nat) (k : Int) : Value := .agg #[.func (.func (if k = 1 ∨ k = 2 ∨ k = 3 then ft else if k = 4 ∨ k = 5 ∨ k = 6 then fs else fr)) #[.int .i64 (if k = 1 ∨ k = 2 ∨ k = 3 then k - 1 else if k = 4 ∨ k = 5 ∨ k = 6 then k - 4 else 0)] #[]]
theorem mot_t {ft fs fr : Nat} {k : Int} (h : k = 1 ∨ k = 2 ∨ k = 3) : motV ft fs fr k = .agg #[.func (.func ft) #[.int .i64 (k - 1)] #[]] := by
 unfold motV; rw [if_pos h, if_pos h]
theorem mot_s {ft fs fr : Nat} {k : Int} (h : k = 4 ∨ k = 5 ∨ k = 6) : motV ft fs fr k = .agg #[.func (.func fs) #[.int .i64 (k - 4)] #[]] := by
 have h2 : ¬ (k = 1 ∨ k = 2 ∨ k = 3) := by omega
 unfold motV; rw [if_neg h2, if_neg h2, if_pos h, if_pos h]
theorem mot_r {ft fs fr : Nat} {k : Int} (h : ¬ (k = 1 ∨ k = 2 ∨ k = 3)) (h2 : ¬ (k = 4 ∨ k = 5 ∨ k = 6)) : motV ft fs fr k = .agg #[.func (.func fr) #[.int .i64 0] #[]] := by
 unfold motV; rw [if_neg h, if_neg h, if_neg h2, if_neg h2]
def V3.put (k : Int) (a : Iv) : V3 := if k = 0 then ⟨a, iv0, iv0⟩ else if k = 1 then ⟨iv0, a, iv0⟩ else ⟨iv0, iv0, a⟩
def jMot (k : Int) (a : Iv) : Po := if k = 1 ∨ k = 2 ∨ k = 3 then Po.turn (k - 1) a else if k = 4 ∨ k = 5 ∨ k = 6 then Po.shift (V3.put (k - 4) a) else Po.rest
theorem jMot_t {k : Int} {a : Iv} (h : k = 1 ∨ k = 2 ∨ k = 3) : jMot k a = Po.turn (k - 1) a := if_pos h
theorem jMot_s {k : Int} {a : Iv} (h : k = 4 ∨ k = 5 ∨ k = 6) : jMot k a = Po.shift (V3.put (k - 4) a) := by
 have h2 : ¬ (k = 1 ∨ k = 2 ∨ k = 3) := by omega
 unfold jMot; rw [if_neg h2, if_pos h]
theorem jMot_r {k : Int} {a : Iv} (h : ¬ (k = 1 ∨ k = 2 ∨ k = 3)) (h2 : ¬ (k = 4 ∨ k = 5 ∨ k = 6)) : jMot k a = Po.rest := by
 unfold jMot; rw [if_neg h, if_neg h2]
def jPose (k : Int) (o : Z3) (a : Iv) : Po := Po.mul (Po.shift (V3.of o)) (jMot k a)
end Go.Sx
namespace Go.Proofs.YtmbnpjpggccefaaGreat
open Go.Sx
theorem la110 : qYZ Tryz.prog 110 = some ([.slice none 0 0, .int .i64 0], [(0, 1), (1, 1)]) := by kernel_rfl
theorem fa110_1 : qWQ Tryz.prog 110 1 1 = true := by kernel_rfl
theorem ty3 : tyB Tryz.prog 3 false 1 = true := by kernel_rfl
theorem fa110_0 : qWQ Tryz.prog 110 0 0 = true := by kernel_rfl
theorem ty31 : tyB Tryz.prog 31 false 1 = true := by kernel_rfl
theorem sl31 : slcB Tryz.prog 31 3 1 = true := by kernel_rfl
theorem en15 : jU Tryz.prog 15 := zG Tryz.func15 (by kernel_rfl) (by kernel_rfl)
theorem en27 : jU Tryz.prog 27 := zG Tryz.func27 (by kernel_rfl) (by kernel_rfl)
theorem src_inc {i : Nat} {L : List Int} (hl : L.length ≤ 9223372036854775807) (h : i < L.length) : IntKind.i64.wrap (((min i L.length : Nat) : Int) + 1) = ((min (i + 1) L.length : Nat) : Int) := by
 refine (zW ?_).trans ?_ <;> omega
theorem src_dec {i : Nat} {L : List Int} (hl : L.length ≤ 9223372036854775807) (h : i < L.length) : IntKind.i64.wrap (((min (i + 1) L.length : Nat) : Int) - 1) = (i : Int) := by
 refine (zW ?_).trans ?_ <;> omega
theorem src_out {w : World} {b i : Nat} {sl : Value} {L : List Int} (h : L.length ≤ i) : srcW w b sl L i = srcW w b sl L (i + 1) := by
 unfold srcW srcC
 rw [show min i L.length = min (i + 1) L.length by omega]
theorem src_outB {B : Base} {b i : Nat} {sl : Value} {L : List Int} (h : L.length ≤ i) : srcB B b sl L i = srcB B b sl L (i + 1) := by
 unfold srcB; rw [src_out h]
theorem srcR_out {i : Nat} {L : List Int} (k : Int) (h : L.length ≤ i) : (0 : Int) = srcR L i k := by
 unfold srcR
 simp [List.getD_eq_getElem?_getD, List.getElem?_eq_none h]
theorem mFrom0  (a : Option Addr) (cap : Nat) (L : List Int) (w : World) : Calls Tryz.prog 25 [.slice a L.length cap].toArray w (RetsT (NewT w (srcC (.slice a L.length cap) L 0) 110) w) := by
 refine zX (n := 6) Tryz.func25 rfl rfl rfl ?_
 refine qK ?_
 refine qZ ?_
 refine qY (qX rfl) rfl rfl rfl ?_
 refine qJ ?_
 refine qQ ?_
 refine qK ?_
 refine qZ ?_
 refine qY (qU rfl) rfl rfl rfl ?_
 refine qY (zH la110 rfl rfl) rfl rfl rfl ?_
 refine kY 5 rfl rfl rfl rfl ?_; intro b5
 refine qY (qX rfl) rfl rfl rfl ?_
 refine qJ ?_
 refine qQ ?_
 refine zV ?_
 refine qKZ (rs := [.tmp 2]) rfl (resC (kQ rfl) (resN)) rfl ?_
 intro w2 k
 rw [srcC_zero]
 exact ⟨_, rfl, k.grow, _, rfl, (k.at (i := 5) rfl).1, (k.at (i := 5) rfl).2⟩
theorem mFrom {sl : Value} {L : List Int} {m : Nat} (w : World) (h : IntsAt w m sl L) : Calls Tryz.prog 25 [sl].toArray w (RetsT (NewT w (srcC sl L 0) 110) w) := by
 obtain ⟨_, a, cap, rfl, _⟩ := h
 exact mFrom0 a cap L w
theorem kG {b : Nat} {sl : Value} {L : List Int} {i : Nat} (k : Int) (hk : 0 < k ∧ k ≤ 9223372036854775807) (w : World) (hs : Src w b sl L i) : Calls Tryz.prog 27 [.pointer (some ⟨b, 0, none⟩), .int .i64 k].toArray w (Rets (vI (srcR L i k)) (srcW w b sl L (i + 1))) := by
 refine calls_src (n := 35) hs Tryz.func27 rfl rfl rfl ?_
 refine qK ?_
 obtain ⟨t0, hb⟩ := hs.blk
 obtain ⟨hlen, a, cap, rfl, hcell⟩ := hs.ints
 refine qZ ?_
 refine qY (qX rfl) rfl rfl rfl ?_
 refine qJ ?_
 refine qQ ?_
 refine qK ?_
 refine qK ?_
 refine yY 9 mo (by kernel_rfl) ?_
 simp only [List.take_succ_cons, List.take_zero, List.drop_succ_cons, List.drop_zero]
 refine qH (qU rfl) rfl rfl rfl ?_
 refine qH (opV_nilCheck rfl) rfl rfl rfl ?_
 refine qH (qV fa110_1 rfl) rfl rfl rfl ?_
 refine qH (opV_load_base (B := ⟨w, []⟩) hb ty3 rfl rfl) rfl rfl rfl ?_
 refine qH (qU rfl) rfl rfl rfl ?_
 refine qH (opV_nilCheck rfl) rfl rfl rfl ?_
 refine qH (qV fa110_0 rfl) rfl rfl rfl ?_
 refine qH (opV_load_base (B := ⟨w, []⟩) hb ty31 rfl rfl) rfl rfl rfl ?_
 refine qH (qYU sl31 rfl) rfl rfl rfl ?_
 refine jX ?_
 refine yU ?_
 refine qY (opV_geq rfl rfl) rfl rfl rfl ?_
 refine qJ ?_
 refine qQ ?_
 refine yH rfl (fun hc14 => ?_) (fun hc14 => ?_)
 ·
  have h2 : L.length ≤ i := by have := of_decide_eq_true hc14; omega
  rw [src_outB h2]
  refine qK ?_
  refine qZ ?_
  refine qY (qX rfl) rfl rfl rfl ?_
  refine qJ ?_
  refine qQ ?_
  refine zV ?_
  refine jK ?_
  refine zK (rs := [.tmp 4]) rfl (resC (kQ rfl) (resN)) (congrArg (vI) (?_ : _ = srcR L i k))
  exact srcR_out k h2
 ·
  have h2 : i < L.length := by have := of_decide_eq_false hc14; omega
  obtain ⟨bb, off, rfl, hbb, hcc⟩ := hcell i h2
  have hlt := uQ hb
  refine yZ ?_
  refine qQ ?_
  refine qK ?_
  refine qZ ?_
  refine qY (qU rfl) rfl rfl rfl ?_
  refine qY (opV_nilCheck rfl) rfl rfl rfl ?_
  refine qY (qV fa110_1 rfl) rfl rfl rfl ?_
  refine qY (opV_load_base (B := ⟨w, []⟩) hb ty3 rfl rfl) rfl rfl rfl ?_
  refine qY (yK rfl rfl (src_inc hlen h2)) rfl rfl rfl ?_
  refine qY (opV_nilCheck rfl) rfl rfl rfl ?_
  refine qY (qV fa110_1 rfl) rfl rfl rfl ?_
  refine doL_store_base (B := ⟨w, []⟩) hb ty3 rfl rfl rfl rfl rfl rfl ?_
  refine qJ ?_
  refine qQ ?_
  refine qK ?_
  refine yY 13 mo (by kernel_rfl) ?_
  simp only [List.take_succ_cons, List.take_zero, List.drop_succ_cons, List.drop_zero]
  refine qH (qU rfl) rfl rfl rfl ?_
  refine qH (opV_nilCheck rfl) rfl rfl rfl ?_
  refine qH (qV fa110_0 rfl) rfl rfl rfl ?_
  refine qH (opV_load_base (B := ⟨w, []⟩) hb ty31 rfl rfl) rfl rfl rfl ?_
  refine qH (qU rfl) rfl rfl rfl ?_
  refine qH (opV_nilCheck rfl) rfl rfl rfl ?_
  refine qH (qV fa110_1 rfl) rfl rfl rfl ?_
  refine qH (opV_load_base (B := ⟨w, []⟩) hb ty3 rfl rfl) rfl rfl rfl ?_
  refine qH (jG rfl rfl (src_dec hlen h2)) rfl rfl rfl ?_
  refine qH (kW sl31 rfl rfl (by first | decide | omega) (by first | decide | omega)) rfl rfl rfl ?_
  refine qH (uK ty3 rfl (by simp [Base.setRow]; omega) ((cell_setRow_other _ _ _ _ (by simp; omega)).trans (by simpa using hcc))) rfl rfl rfl ?_
  refine qH (qU rfl) rfl rfl rfl ?_
  refine yV (F := vI) (zQ en15 rfl (fun w _ => mRound _ _ (by first | omega | assumption | (unfold In64; omega) | decide) w)) rfl rfl rfl ?_; intro r34 hr34
  refine jX ?_
  refine yU ?_
  refine qY (qX rfl) rfl rfl rfl ?_
  refine qJ ?_
  refine qQ ?_
  refine zV ?_
  refine zK (rs := [.tmp 4]) rfl (resC (kQ rfl) (resN)) (congrArg (vI) (?_ : _ = srcR L i k))
  exact hr34
theorem qWX {b : Nat} {sl : Value} {L : List Int} {i : Nat} (k : Int) (hk : 0 ≤ k ∧ k ≤ 1000000000) (w : World) (hs : Src w b sl L i) : Calls Tryz.prog 29 [.pointer (some ⟨b, 0, none⟩), .int .i64 k].toArray w (Rets (vI (srcS L i k)) (srcW w b sl L (i + 1))) := by
 refine calls_src (n := 12) hs Tryz.func29 rfl rfl rfl ?_
 refine qK ?_
 refine qZ ?_
 refine qY (qX rfl) rfl rfl rfl ?_
 refine qJ ?_
 refine qQ ?_
 refine qK ?_
 refine qZ ?_
 refine qY (qU rfl) rfl rfl rfl ?_
 refine qY (qU rfl) rfl rfl rfl ?_
 refine qY (jZ rfl rfl (by first | exact zW ⟨by omega, by omega⟩ | rfl)) rfl rfl rfl ?_
 refine qY (yK rfl rfl (by first | exact zW ⟨by omega, by omega⟩ | rfl)) rfl rfl rfl ?_
 refine kH (F := vI) hs en27 rfl (fun w' h => kG _ (by first | omega | assumption | (unfold In64; omega) | decide) w' h) rfl rfl ?_; intro r9 hr9
 have br9 := qQZ hr9 (by first | decide | omega)
 refine qY (qU rfl) rfl rfl rfl ?_
 refine qY (jG rfl rfl (by first | exact zW ⟨by omega, by omega⟩ | rfl)) rfl rfl rfl ?_
 refine qY (qX rfl) rfl rfl rfl ?_
 refine qJ ?_
 refine qQ ?_
 refine zV ?_
 refine zK (rs := [.tmp 4]) rfl (resC (kQ rfl) (resN)) (congrArg (vI) (?_ : _ = srcS L i k))
 subst_vars; rfl
end Go.Proofs.YtmbnpjpggccefaaGreat
namespace Go.Proofs.YtmbnpjpggccefaaGreat
open Go.Sx
theorem ze70 : qQV Tryz.prog 70 (.agg #[.string ByteArray.empty, .int .i64 0, .int .i64 0, .int .i64 0, .int .i64 0, .int .i64 0, .int .i64 0, .int .i64 0, .int .i64 0, .int .i64 0, .int .i64 0, .int .i64 0]) := by unfold qQV; kernel_rfl
theorem en76 : jU Tryz.prog 76 := zG Tryz.func76 (by kernel_rfl) (by kernel_rfl)
theorem la70 : qYZ Tryz.prog 70 = some ([.string ByteArray.empty, .int .i64 0, .int .i64 0, .int .i64 0, .int .i64 0, .int .i64 0, .int .i64 0, .int .i64 0, .int .i64 0, .int .i64 0, .int .i64 0, .int .i64 0], [(0, 1), (1, 1), (2, 1), (3, 3), (6, 1), (7, 1), (8, 1), (9, 1), (10, 1), (11, 1)]) := by kernel_rfl
theorem ty70 : tyB Tryz.prog 70 true 12 = true := by kernel_rfl
theorem la151 : qYZ Tryz.prog 151 = some ([.int .i64 0, .int .i64 0, .int .i64 0, .int .i64 0, .int .i64 0, .int .i64 0, .int .i64 0, .int .i64 0], [(0, 1), (1, 1), (2, 1), (3, 1), (4, 1), (5, 1), (6, 1), (7, 1)]) := by kernel_rfl
theorem zQW : qWQ Tryz.prog 70 1 1 = true := by kernel_rfl
theorem fa70_2 : qWQ Tryz.prog 70 2 2 = true := by kernel_rfl
theorem en29 : jU Tryz.prog 29 := zG Tryz.func29 (by kernel_rfl) (by kernel_rfl)
theorem zZG : qWQ Tryz.prog 70 3 3 = true := by kernel_rfl
theorem ty39 : tyB Tryz.prog 39 true 3 = true := by kernel_rfl
theorem zQX : qWQ Tryz.prog 70 4 6 = true := by kernel_rfl
theorem zQU : qWQ Tryz.prog 70 5 7 = true := by kernel_rfl
theorem mkLetter (k : Int) (hk : 0 ≤ k ∧ k ≤ 9) (w : World) : Calls Tryz.prog 76 [.int .i64 k].toArray w (Rets (vS (letterB k)) (w)) := by
 refine zX (n := 7) Tryz.func76 rfl rfl rfl ?_
 refine qK ?_
 refine qZ ?_
 refine qY (qX rfl) rfl rfl rfl ?_
 refine qJ ?_
 refine qQ ?_
 refine qK ?_
 refine qZ ?_
 refine qY (qU rfl) rfl rfl rfl ?_
 refine qY (qU rfl) rfl rfl rfl ?_
 refine qY (yK rfl rfl (by first | exact zW ⟨by omega, by omega⟩ | rfl)) rfl rfl rfl ?_
 refine qY (opV_sliceStr (s := abc) Tryz.underlying9 rfl rfl rfl (by omega) (by omega) (by show _ ≤ (10 : Int); omega)) rfl rfl rfl ?_
 refine qY (qX rfl) rfl rfl rfl ?_
 refine qJ ?_
 refine qQ ?_
 refine zV ?_
 refine zK (rs := [.tmp 2]) rfl (resC (kQ rfl) (resN)) (congrArg (vS) (?_ : _ = letterB k))
 rfl
theorem ixK {i : Int} (h : 0 ≤ i ∧ i < 8) : ∀ w : World, (Instr.index 151 (.agg #[.int .i64 3, .int .i64 3, .int .i64 1, .int .i64 2, .int .i64 4, .int .i64 5, .int .i64 3, .int .i64 0]) (.int .i64 i)).run Tryz.prog w = .ok (.int .i64 (qQH i)) w := by
 have hi : i = 0 ∨ i = 1 ∨ i = 2 ∨ i = 3 ∨ i = 4 ∨ i = 5 ∨ i = 6 ∨ i = 7 := by omega
 rcases hi with rfl | rfl | rfl | rfl | rfl | rfl | rfl | rfl <;> (intro w; kernel_rfl)
theorem quo8 {a : Int} (h : -9000000000 ≤ a ∧ a ≤ 9000000000) : IntKind.i64.wrap (a.tdiv 8) = a.tdiv 8 := zW (by
 have := tdiv_bnd (a := a) (b := 8) (by unfold In64; omega) (by decide)
 exact this)
theorem hi8 {a b : Int} (ha : 0 ≤ a ∧ a < 4) (hb : 0 ≤ b ∧ b < 3) : IntKind.i64.wrap (((1 + a) * 65536).tdiv 8 + b) = ((1 + a) * 65536).tdiv 8 + b := zW (by
 rw [Int.tdiv_eq_ediv_of_nonneg (by omega)]; omega)
theorem mkJoint {b : Nat} {sl : Value} {L : List Int} {i : Nat} (k : Int) (hk : 0 ≤ k ∧ k ≤ 9) (w : World) (hs : Src w b sl L i) : Calls Tryz.prog 56 [.pointer (some ⟨b, 0, none⟩), .int .i64 k].toArray w (Rets (jv ((qGJ L i k).1)) (srcW w b sl L ((qGJ L i k).2))) := by
 refine calls_src (n := 68) hs Tryz.func56 rfl rfl rfl ?_
 refine qK ?_
 refine qZ ?_
 refine yQ 4 ze70 rfl rfl rfl ?_; intro b4
 refine qJ ?_
 refine qQ ?_
 refine qK ?_
 refine qZ ?_
 refine qY (qU rfl) rfl rfl rfl ?_
 refine jW (F := vS) (zQ en76 rfl (fun w _ => mkLetter _ (by first | omega | assumption | (unfold In64; omega) | decide) w)) rfl rfl rfl ?_; intro r7 hr7
 refine qY (qU rfl) rfl rfl rfl ?_
 refine qY (jG rfl rfl (by first | exact zW ⟨by omega, by omega⟩ | rfl)) rfl rfl rfl ?_
 refine qY (qU rfl) rfl rfl rfl ?_
 refine kH (F := vI) hs en27 rfl (fun w' h => kG _ (by first | omega | assumption | (unfold In64; omega) | decide) w' h) rfl rfl ?_; intro r11 hr11
 have br11 := qQZ hr11 (by first | decide | omega)
 refine qY (yK rfl rfl (by first | exact zW ⟨by omega, by omega⟩ | rfl)) rfl rfl rfl ?_
 refine qY (qU rfl) rfl rfl rfl ?_
 refine kH (F := vI) hs en27 rfl (fun w' h => kG _ (by first | omega | assumption | (unfold In64; omega) | decide) w' h) rfl rfl ?_; intro r14 hr14
 have br14 := qQZ hr14 (by first | decide | omega)
 refine qY (yK rfl rfl (by first | exact zW ⟨by omega, by omega⟩ | rfl)) rfl rfl rfl ?_
 refine qY (zH la70 rfl rfl) rfl rfl rfl ?_
 refine yQ 5 ze70 rfl rfl rfl ?_; intro b5
 refine qG 5 ty70 rfl rfl rfl rfl rfl rfl rfl rfl ?_
 refine qJ ?_
 refine qQ ?_
 refine qK ?_
 refine qZ ?_
 refine qY (zH la151 rfl rfl) rfl rfl rfl ?_
 refine qY (qU rfl) rfl rfl rfl ?_
 refine kH (F := vI) hs en27 rfl (fun w' h => kG _ (by first | omega | assumption | (unfold In64; omega) | decide) w' h) rfl rfl ?_; intro r19 hr19
 have br19 := qQZ hr19 (by first | decide | omega)
 refine qY (opV_index rfl rfl (ixK (by omega))) rfl rfl rfl ?_
 refine qY (qV zQW rfl) rfl rfl rfl ?_
 refine qG 5 ty3 rfl rfl rfl rfl rfl rfl rfl rfl ?_
 refine qJ ?_
 refine qQ ?_
 refine qK ?_
 refine qK ?_
 refine qZ ?_
 refine qY (qU rfl) rfl rfl rfl ?_
 refine kH (F := vI) hs en27 rfl (fun w' h => kG _ (by first | omega | assumption | (unfold In64; omega) | decide) w' h) rfl rfl ?_; intro r23 hr23
 have br23 := qQZ hr23 (by first | decide | omega)
 refine qY (uX rfl rfl) rfl rfl rfl ?_
 refine qJ ?_
 refine qQ ?_
 refine yH rfl (fun hc24 => ?_) (fun hc24 => ?_)
 ·
  have hp : srcR L (i + 3) 4 = 1 := by have := of_decide_eq_true hc24; rw [← this]; exact hr23.symm
  refine qZ ?_
  refine qY (qV fa70_2 rfl) rfl rfl rfl ?_
  refine qG 5 ty3 rfl rfl rfl rfl rfl rfl rfl rfl ?_
  refine qJ ?_
  refine qQ ?_
  refine qK ?_
  refine qK ?_
  refine qZ ?_
  refine qY (qU rfl) rfl rfl rfl ?_
  refine qY (opV_gtr rfl rfl) rfl rfl rfl ?_
  refine qJ ?_
  refine qQ ?_
  refine yH rfl (fun hc27 => ?_) (fun hc27 => ?_)
  ·
   have hi : 0 < k := of_decide_eq_true hc27
   refine qZ ?_
   refine qY (qU rfl) rfl rfl rfl ?_
   refine kH (F := vI) hs en29 rfl (fun w' h => qWX _ (by first | omega | assumption | (unfold In64; omega) | decide) w' h) rfl rfl ?_; intro r29 hr29
   have br29 := zZJ hr29 (by first | decide | omega)
   refine qY (jZ rfl rfl (by first | exact zW ⟨by omega, by omega⟩ | rfl)) rfl rfl rfl ?_
   refine qY (qU rfl) rfl rfl rfl ?_
   refine kH (F := vI) hs en29 rfl (fun w' h => qWX _ (by first | omega | assumption | (unfold In64; omega) | decide) w' h) rfl rfl ?_; intro r32 hr32
   have br32 := zZJ hr32 (by first | decide | omega)
   refine qY (jZ rfl rfl (by first | exact zW ⟨by omega, by omega⟩ | rfl)) rfl rfl rfl ?_
   refine qY (zH la39 rfl rfl) rfl rfl rfl ?_
   refine qY (qV zZG rfl) rfl rfl rfl ?_
   refine qG 5 ty39 rfl rfl rfl rfl rfl rfl rfl rfl ?_
   refine qJ ?_
   refine qQ ?_
   refine qK ?_
   refine qK ?_
   refine qZ ?_
   refine qY (qV zQW rfl) rfl rfl rfl ?_
   refine qY (zY 5 ty3 rfl rfl rfl) rfl rfl rfl ?_
   refine qJ ?_
   refine qQ ?_
   refine yJ ?_
   refine qK ?_
   refine qZ ?_
   refine qY (uX rfl rfl) rfl rfl rfl ?_
   refine qY (qX rfl) rfl rfl rfl ?_
   refine qJ ?_
   refine qQ ?_
   refine yH rfl (fun hc53 => ?_) (fun hc53 => ?_)
   ·
    have hk0 : qQH (srcR L (i + 2) 8) = 0 := by have := of_decide_eq_true hc53; rw [hr19] at this; exact this
    rw [jointOf_fix hk0]
    first | rw [qWU hp hi, qYX hi] | rw [qWK hp hi, qYW hi] | rw [qWJ hp hi, qYX hi] | rw [qWY hp hi, qYW hi]
    refine yZ ?_
    refine zZ ?_
    refine qQ ?_
    refine qK ?_
    refine qZ ?_
    refine qY (zJ 5 ty70 rfl rfl rfl) rfl rfl rfl ?_
    refine qG 4 ty70 rfl rfl rfl rfl rfl rfl rfl rfl ?_
    refine qJ ?_
    refine qQ ?_
    refine zV ?_
    refine zK (rs := [.cell 4 70]) rfl (resC (zU 4 rfl rfl ty70 rfl) (resN)) ?_
    subst_vars; rfl
   ·
    have hk0 : ¬ qQH (srcR L (i + 2) 8) = 0 := by have := of_decide_eq_false hc53; rw [hr19] at this; exact this
    refine qK ?_
    refine qK ?_
    refine qZ ?_
    refine qY (uX rfl rfl) rfl rfl rfl ?_
    refine qY (qX rfl) rfl rfl rfl ?_
    refine qJ ?_
    refine qQ ?_
    refine yH rfl (fun hc55 => ?_) (fun hc55 => ?_)
    ·
     have hk4 : qQH (srcR L (i + 2) 8) = 4 := by have := of_decide_eq_true hc55; rw [hr19] at this; exact this
     rw [qXU (.inl hk4)]
     first | rw [qWU hp hi, qYX hi] | rw [qWK hp hi, qYW hi] | rw [qWJ hp hi, qYX hi] | rw [qWY hp hi, qYW hi]
     refine yZ ?_
     refine qQ ?_
     refine yX rfl (hc55) ?_
     refine qZ ?_
     refine qY (qU rfl) rfl rfl rfl ?_
     refine kH (F := vI) hs en27 rfl (fun w' h => kG _ (by first | omega | assumption | (unfold In64; omega) | decide) w' h) rfl rfl ?_; intro r59 hr59
     have br59 := qQZ hr59 (by first | decide | omega)
     refine qY (qQW rfl (by first | exact qJZ ⟨by omega, by omega⟩ | rfl)) rfl rfl rfl ?_
     refine qY (jZ rfl rfl (by first | exact zW ⟨by omega, by omega⟩ | rfl)) rfl rfl rfl ?_
     refine qY (qU rfl) rfl rfl rfl ?_
     refine kH (F := vI) hs en27 rfl (fun w' h => kG _ (by first | omega | assumption | (unfold In64; omega) | decide) w' h) rfl rfl ?_; intro r63 hr63
     have br63 := qQZ hr63 (by first | decide | omega)
     refine qY (jZ rfl rfl (by first | exact zW ⟨by omega, by omega⟩ | rfl)) rfl rfl rfl ?_
     refine qY (qV zQX rfl) rfl rfl rfl ?_
     refine qG 5 ty2 rfl rfl rfl rfl rfl rfl rfl rfl ?_
     refine qY (qV zQU rfl) rfl rfl rfl ?_
     refine qG 5 ty2 rfl rfl rfl rfl rfl rfl rfl rfl ?_
     refine qJ ?_
     refine zZ ?_
     refine qQ ?_
     refine qK ?_
     refine qZ ?_
     refine qY (zJ 5 ty70 rfl rfl rfl) rfl rfl rfl ?_
     refine qG 4 ty70 rfl rfl rfl rfl rfl rfl rfl rfl ?_
     refine qJ ?_
     refine qQ ?_
     refine zV ?_
     refine zK (rs := [.cell 4 70]) rfl (resC (zU 4 rfl rfl ty70 rfl) (resN)) ?_
     subst_vars; rfl
    ·
     have hk4 : ¬ qQH (srcR L (i + 2) 8) = 4 := by have := of_decide_eq_false hc55; rw [hr19] at this; exact this
     refine qZ ?_
     refine qY (uX rfl rfl) rfl rfl rfl ?_
     refine qY (qX rfl) rfl rfl rfl ?_
     refine qJ ?_
     refine qQ ?_
     refine yH rfl (fun hc55_2 => ?_) (fun hc55_2 => ?_)
     ·
      have hk5 : qQH (srcR L (i + 2) 8) = 5 := by have := of_decide_eq_true hc55_2; rw [hr19] at this; exact this
      rw [qXU (.inr hk5)]
      first | rw [qWU hp hi, qYX hi] | rw [qWK hp hi, qYW hi] | rw [qWJ hp hi, qYX hi] | rw [qWY hp hi, qYW hi]
      refine qZ ?_
      refine qY (qU rfl) rfl rfl rfl ?_
      refine kH (F := vI) hs en27 rfl (fun w' h => kG _ (by first | omega | assumption | (unfold In64; omega) | decide) w' h) rfl rfl ?_; intro r59 hr59
      have br59 := qQZ hr59 (by first | decide | omega)
      refine qY (qQW rfl (by first | exact qJZ ⟨by omega, by omega⟩ | rfl)) rfl rfl rfl ?_
      refine qY (jZ rfl rfl (by first | exact zW ⟨by omega, by omega⟩ | rfl)) rfl rfl rfl ?_
      refine qY (qU rfl) rfl rfl rfl ?_
      refine kH (F := vI) hs en27 rfl (fun w' h => kG _ (by first | omega | assumption | (unfold In64; omega) | decide) w' h) rfl rfl ?_; intro r63 hr63
      have br63 := qQZ hr63 (by first | decide | omega)
      refine qY (jZ rfl rfl (by first | exact zW ⟨by omega, by omega⟩ | rfl)) rfl rfl rfl ?_
      refine qY (qV zQX rfl) rfl rfl rfl ?_
      refine qG 5 ty2 rfl rfl rfl rfl rfl rfl rfl rfl ?_
      refine qY (qV zQU rfl) rfl rfl rfl ?_
      refine qG 5 ty2 rfl rfl rfl rfl rfl rfl rfl rfl ?_
      refine qJ ?_
      refine zZ ?_
      refine qQ ?_
      refine qK ?_
      refine qZ ?_
      refine qY (zJ 5 ty70 rfl rfl rfl) rfl rfl rfl ?_
      refine qG 4 ty70 rfl rfl rfl rfl rfl rfl rfl rfl ?_
      refine qJ ?_
      refine qQ ?_
      refine zV ?_
      refine zK (rs := [.cell 4 70]) rfl (resC (zU 4 rfl rfl ty70 rfl) (resN)) ?_
      subst_vars; rfl
     ·
      have hk5 : ¬ qQH (srcR L (i + 2) 8) = 5 := by have := of_decide_eq_false hc55_2; rw [hr19] at this; exact this
      rw [jointOf_tu hk0 (by omega)]
      first | rw [qWU hp hi, qYX hi] | rw [qWK hp hi, qYW hi] | rw [qWJ hp hi, qYX hi] | rw [qWY hp hi, qYW hi]
      refine qZ ?_
      refine qY (qU rfl) rfl rfl rfl ?_
      refine kH (F := vI) hs en27 rfl (fun w' h => kG _ (by first | omega | assumption | (unfold In64; omega) | decide) w' h) rfl rfl ?_; intro r39 hr39
      have br39 := qQZ hr39 (by first | decide | omega)
      refine qY (qQW rfl (by first | exact qJZ ⟨by omega, by omega⟩ | rfl)) rfl rfl rfl ?_
      refine qY (jZ rfl rfl (by first | exact zW ⟨by omega, by omega⟩ | rfl)) rfl rfl rfl ?_
      refine qY (qJQ rfl rfl (by first | decide | omega) (quo8 (by omega))) rfl rfl rfl ?_
      refine qY (qU rfl) rfl rfl rfl ?_
      refine kH (F := vI) hs en27 rfl (fun w' h => kG _ (by first | omega | assumption | (unfold In64; omega) | decide) w' h) rfl rfl ?_; intro r44 hr44
      have br44 := qQZ hr44 (by first | decide | omega)
      refine qY (yK rfl rfl (by first | exact zW ⟨by omega, by omega⟩ | rfl)) rfl rfl rfl ?_
      refine qY (jZ rfl rfl (by first | exact zW ⟨by omega, by omega⟩ | rfl)) rfl rfl rfl ?_
      refine qY (qJQ rfl rfl (by first | decide | omega) (quo8 (by omega))) rfl rfl rfl ?_
      refine qY (qU rfl) rfl rfl rfl ?_
      refine kH (F := vI) hs en27 rfl (fun w' h => kG _ (by first | omega | assumption | (unfold In64; omega) | decide) w' h) rfl rfl ?_; intro r49 hr49
      have br49 := qQZ hr49 (by first | decide | omega)
      refine qY (yK rfl rfl (hi8 br44 br49)) rfl rfl rfl ?_
      refine qY (qV zQX rfl) rfl rfl rfl ?_
      refine qG 5 ty2 rfl rfl rfl rfl rfl rfl rfl rfl ?_
      refine qY (qV zQU rfl) rfl rfl rfl ?_
      refine qG 5 ty2 rfl rfl rfl rfl rfl rfl rfl rfl ?_
      refine qJ ?_
      refine zZ ?_
      refine qQ ?_
      refine qK ?_
      refine qZ ?_
      refine qY (zJ 5 ty70 rfl rfl rfl) rfl rfl rfl ?_
      refine qG 4 ty70 rfl rfl rfl rfl rfl rfl rfl rfl ?_
      refine qJ ?_
      refine qQ ?_
      refine zV ?_
      refine zK (rs := [.cell 4 70]) rfl (resC (zU 4 rfl rfl ty70 rfl) (resN)) ?_
      subst_vars; rfl
  ·
   have hi : ¬ 0 < k := of_decide_eq_false hc27
   refine yZ ?_
   refine qQ ?_
   refine qK ?_
   refine qK ?_
   refine qZ ?_
   refine qY (qV zQW rfl) rfl rfl rfl ?_
   refine qY (zY 5 ty3 rfl rfl rfl) rfl rfl rfl ?_
   refine qJ ?_
   refine qQ ?_
   refine yJ ?_
   refine qK ?_
   refine qZ ?_
   refine qY (uX rfl rfl) rfl rfl rfl ?_
   refine qY (qX rfl) rfl rfl rfl ?_
   refine qJ ?_
   refine qQ ?_
   refine yH rfl (fun hc53 => ?_) (fun hc53 => ?_)
   ·
    have hk0 : qQH (srcR L (i + 2) 8) = 0 := by have := of_decide_eq_true hc53; rw [hr19] at this; exact this
    rw [jointOf_fix hk0]
    first | rw [qWU hp hi, qYX hi] | rw [qWK hp hi, qYW hi] | rw [qWJ hp hi, qYX hi] | rw [qWY hp hi, qYW hi]
    refine yZ ?_
    refine zZ ?_
    refine qQ ?_
    refine qK ?_
    refine qZ ?_
    refine qY (zJ 5 ty70 rfl rfl rfl) rfl rfl rfl ?_
    refine qG 4 ty70 rfl rfl rfl rfl rfl rfl rfl rfl ?_
    refine qJ ?_
    refine qQ ?_
    refine zV ?_
    refine zK (rs := [.cell 4 70]) rfl (resC (zU 4 rfl rfl ty70 rfl) (resN)) ?_
    subst_vars; rfl
   ·
    have hk0 : ¬ qQH (srcR L (i + 2) 8) = 0 := by have := of_decide_eq_false hc53; rw [hr19] at this; exact this
    refine qK ?_
    refine qK ?_
    refine qZ ?_
    refine qY (uX rfl rfl) rfl rfl rfl ?_
    refine qY (qX rfl) rfl rfl rfl ?_
    refine qJ ?_
    refine qQ ?_
    refine yH rfl (fun hc55 => ?_) (fun hc55 => ?_)
    ·
     have hk4 : qQH (srcR L (i + 2) 8) = 4 := by have := of_decide_eq_true hc55; rw [hr19] at this; exact this
     rw [qXU (.inl hk4)]
     first | rw [qWU hp hi, qYX hi] | rw [qWK hp hi, qYW hi] | rw [qWJ hp hi, qYX hi] | rw [qWY hp hi, qYW hi]
     refine yZ ?_
     refine qQ ?_
     refine yX rfl (hc55) ?_
     refine qZ ?_
     refine qY (qU rfl) rfl rfl rfl ?_
     refine kH (F := vI) hs en27 rfl (fun w' h => kG _ (by first | omega | assumption | (unfold In64; omega) | decide) w' h) rfl rfl ?_; intro r59 hr59
     have br59 := qQZ hr59 (by first | decide | omega)
     refine qY (qQW rfl (by first | exact qJZ ⟨by omega, by omega⟩ | rfl)) rfl rfl rfl ?_
     refine qY (jZ rfl rfl (by first | exact zW ⟨by omega, by omega⟩ | rfl)) rfl rfl rfl ?_
     refine qY (qU rfl) rfl rfl rfl ?_
     refine kH (F := vI) hs en27 rfl (fun w' h => kG _ (by first | omega | assumption | (unfold In64; omega) | decide) w' h) rfl rfl ?_; intro r63 hr63
     have br63 := qQZ hr63 (by first | decide | omega)
     refine qY (jZ rfl rfl (by first | exact zW ⟨by omega, by omega⟩ | rfl)) rfl rfl rfl ?_
     refine qY (qV zQX rfl) rfl rfl rfl ?_
     refine qG 5 ty2 rfl rfl rfl rfl rfl rfl rfl rfl ?_
     refine qY (qV zQU rfl) rfl rfl rfl ?_
     refine qG 5 ty2 rfl rfl rfl rfl rfl rfl rfl rfl ?_
     refine qJ ?_
     refine zZ ?_
     refine qQ ?_
     refine qK ?_
     refine qZ ?_
     refine qY (zJ 5 ty70 rfl rfl rfl) rfl rfl rfl ?_
     refine qG 4 ty70 rfl rfl rfl rfl rfl rfl rfl rfl ?_
     refine qJ ?_
     refine qQ ?_
     refine zV ?_
     refine zK (rs := [.cell 4 70]) rfl (resC (zU 4 rfl rfl ty70 rfl) (resN)) ?_
     subst_vars; rfl
    ·
     have hk4 : ¬ qQH (srcR L (i + 2) 8) = 4 := by have := of_decide_eq_false hc55; rw [hr19] at this; exact this
     refine qZ ?_
     refine qY (uX rfl rfl) rfl rfl rfl ?_
     refine qY (qX rfl) rfl rfl rfl ?_
     refine qJ ?_
     refine qQ ?_
     refine yH rfl (fun hc55_2 => ?_) (fun hc55_2 => ?_)
     ·
      have hk5 : qQH (srcR L (i + 2) 8) = 5 := by have := of_decide_eq_true hc55_2; rw [hr19] at this; exact this
      rw [qXU (.inr hk5)]
      first | rw [qWU hp hi, qYX hi] | rw [qWK hp hi, qYW hi] | rw [qWJ hp hi, qYX hi] | rw [qWY hp hi, qYW hi]
      refine qZ ?_
      refine qY (qU rfl) rfl rfl rfl ?_
      refine kH (F := vI) hs en27 rfl (fun w' h => kG _ (by first | omega | assumption | (unfold In64; omega) | decide) w' h) rfl rfl ?_; intro r59 hr59
      have br59 := qQZ hr59 (by first | decide | omega)
      refine qY (qQW rfl (by first | exact qJZ ⟨by omega, by omega⟩ | rfl)) rfl rfl rfl ?_
      refine qY (jZ rfl rfl (by first | exact zW ⟨by omega, by omega⟩ | rfl)) rfl rfl rfl ?_
      refine qY (qU rfl) rfl rfl rfl ?_
      refine kH (F := vI) hs en27 rfl (fun w' h => kG _ (by first | omega | assumption | (unfold In64; omega) | decide) w' h) rfl rfl ?_; intro r63 hr63
      have br63 := qQZ hr63 (by first | decide | omega)
      refine qY (jZ rfl rfl (by first | exact zW ⟨by omega, by omega⟩ | rfl)) rfl rfl rfl ?_
      refine qY (qV zQX rfl) rfl rfl rfl ?_
      refine qG 5 ty2 rfl rfl rfl rfl rfl rfl rfl rfl ?_
      refine qY (qV zQU rfl) rfl rfl rfl ?_
      refine qG 5 ty2 rfl rfl rfl rfl rfl rfl rfl rfl ?_
      refine qJ ?_
      refine zZ ?_
      refine qQ ?_
      refine qK ?_
      refine qZ ?_
      refine qY (zJ 5 ty70 rfl rfl rfl) rfl rfl rfl ?_
      refine qG 4 ty70 rfl rfl rfl rfl rfl rfl rfl rfl ?_
      refine qJ ?_
      refine qQ ?_
      refine zV ?_
      refine zK (rs := [.cell 4 70]) rfl (resC (zU 4 rfl rfl ty70 rfl) (resN)) ?_
      subst_vars; rfl
     ·
      have hk5 : ¬ qQH (srcR L (i + 2) 8) = 5 := by have := of_decide_eq_false hc55_2; rw [hr19] at this; exact this
      rw [jointOf_tu hk0 (by omega)]
      first | rw [qWU hp hi, qYX hi] | rw [qWK hp hi, qYW hi] | rw [qWJ hp hi, qYX hi] | rw [qWY hp hi, qYW hi]
      refine qZ ?_
      refine qY (qU rfl) rfl rfl rfl ?_
      refine kH (F := vI) hs en27 rfl (fun w' h => kG _ (by first | omega | assumption | (unfold In64; omega) | decide) w' h) rfl rfl ?_; intro r39 hr39
      have br39 := qQZ hr39 (by first | decide | omega)
      refine qY (qQW rfl (by first | exact qJZ ⟨by omega, by omega⟩ | rfl)) rfl rfl rfl ?_
      refine qY (jZ rfl rfl (by first | exact zW ⟨by omega, by omega⟩ | rfl)) rfl rfl rfl ?_
      refine qY (qJQ rfl rfl (by first | decide | omega) (quo8 (by omega))) rfl rfl rfl ?_
      refine qY (qU rfl) rfl rfl rfl ?_
      refine kH (F := vI) hs en27 rfl (fun w' h => kG _ (by first | omega | assumption | (unfold In64; omega) | decide) w' h) rfl rfl ?_; intro r44 hr44
      have br44 := qQZ hr44 (by first | decide | omega)
      refine qY (yK rfl rfl (by first | exact zW ⟨by omega, by omega⟩ | rfl)) rfl rfl rfl ?_
      refine qY (jZ rfl rfl (by first | exact zW ⟨by omega, by omega⟩ | rfl)) rfl rfl rfl ?_
      refine qY (qJQ rfl rfl (by first | decide | omega) (quo8 (by omega))) rfl rfl rfl ?_
      refine qY (qU rfl) rfl rfl rfl ?_
      refine kH (F := vI) hs en27 rfl (fun w' h => kG _ (by first | omega | assumption | (unfold In64; omega) | decide) w' h) rfl rfl ?_; intro r49 hr49
      have br49 := qQZ hr49 (by first | decide | omega)
      refine qY (yK rfl rfl (hi8 br44 br49)) rfl rfl rfl ?_
      refine qY (qV zQX rfl) rfl rfl rfl ?_
      refine qG 5 ty2 rfl rfl rfl rfl rfl rfl rfl rfl ?_
      refine qY (qV zQU rfl) rfl rfl rfl ?_
      refine qG 5 ty2 rfl rfl rfl rfl rfl rfl rfl rfl ?_
      refine qJ ?_
      refine zZ ?_
      refine qQ ?_
      refine qK ?_
      refine qZ ?_
      refine qY (zJ 5 ty70 rfl rfl rfl) rfl rfl rfl ?_
      refine qG 4 ty70 rfl rfl rfl rfl rfl rfl rfl rfl ?_
      refine qJ ?_
      refine qQ ?_
      refine zV ?_
      refine zK (rs := [.cell 4 70]) rfl (resC (zU 4 rfl rfl ty70 rfl) (resN)) ?_
      subst_vars; rfl
 ·
  have hp : ¬ srcR L (i + 3) 4 = 1 := fun e => by have := of_decide_eq_false hc24; exact this (hr23.trans e)
  refine yZ ?_
  refine qQ ?_
  refine qK ?_
  refine qK ?_
  refine qZ ?_
  refine qY (qU rfl) rfl rfl rfl ?_
  refine qY (opV_gtr rfl rfl) rfl rfl rfl ?_
  refine qJ ?_
  refine qQ ?_
  refine yH rfl (fun hc27 => ?_) (fun hc27 => ?_)
  ·
   have hi : 0 < k := of_decide_eq_true hc27
   refine qZ ?_
   refine qY (qU rfl) rfl rfl rfl ?_
   refine kH (F := vI) hs en29 rfl (fun w' h => qWX _ (by first | omega | assumption | (unfold In64; omega) | decide) w' h) rfl rfl ?_; intro r29 hr29
   have br29 := zZJ hr29 (by first | decide | omega)
   refine qY (jZ rfl rfl (by first | exact zW ⟨by omega, by omega⟩ | rfl)) rfl rfl rfl ?_
   refine qY (qU rfl) rfl rfl rfl ?_
   refine kH (F := vI) hs en29 rfl (fun w' h => qWX _ (by first | omega | assumption | (unfold In64; omega) | decide) w' h) rfl rfl ?_; intro r32 hr32
   have br32 := zZJ hr32 (by first | decide | omega)
   refine qY (jZ rfl rfl (by first | exact zW ⟨by omega, by omega⟩ | rfl)) rfl rfl rfl ?_
   refine qY (zH la39 rfl rfl) rfl rfl rfl ?_
   refine qY (qV zZG rfl) rfl rfl rfl ?_
   refine qG 5 ty39 rfl rfl rfl rfl rfl rfl rfl rfl ?_
   refine qJ ?_
   refine qQ ?_
   refine qK ?_
   refine qK ?_
   refine qZ ?_
   refine qY (qV zQW rfl) rfl rfl rfl ?_
   refine qY (zY 5 ty3 rfl rfl rfl) rfl rfl rfl ?_
   refine qJ ?_
   refine qQ ?_
   refine yJ ?_
   refine qK ?_
   refine qZ ?_
   refine qY (uX rfl rfl) rfl rfl rfl ?_
   refine qY (qX rfl) rfl rfl rfl ?_
   refine qJ ?_
   refine qQ ?_
   refine yH rfl (fun hc53 => ?_) (fun hc53 => ?_)
   ·
    have hk0 : qQH (srcR L (i + 2) 8) = 0 := by have := of_decide_eq_true hc53; rw [hr19] at this; exact this
    rw [jointOf_fix hk0]
    first | rw [qWU hp hi, qYX hi] | rw [qWK hp hi, qYW hi] | rw [qWJ hp hi, qYX hi] | rw [qWY hp hi, qYW hi]
    refine yZ ?_
    refine zZ ?_
    refine qQ ?_
    refine qK ?_
    refine qZ ?_
    refine qY (zJ 5 ty70 rfl rfl rfl) rfl rfl rfl ?_
    refine qG 4 ty70 rfl rfl rfl rfl rfl rfl rfl rfl ?_
    refine qJ ?_
    refine qQ ?_
    refine zV ?_
    refine zK (rs := [.cell 4 70]) rfl (resC (zU 4 rfl rfl ty70 rfl) (resN)) ?_
    subst_vars; rfl
   ·
    have hk0 : ¬ qQH (srcR L (i + 2) 8) = 0 := by have := of_decide_eq_false hc53; rw [hr19] at this; exact this
    refine qK ?_
    refine qK ?_
    refine qZ ?_
    refine qY (uX rfl rfl) rfl rfl rfl ?_
    refine qY (qX rfl) rfl rfl rfl ?_
    refine qJ ?_
    refine qQ ?_
    refine yH rfl (fun hc55 => ?_) (fun hc55 => ?_)
    ·
     have hk4 : qQH (srcR L (i + 2) 8) = 4 := by have := of_decide_eq_true hc55; rw [hr19] at this; exact this
     rw [qXU (.inl hk4)]
     first | rw [qWU hp hi, qYX hi] | rw [qWK hp hi, qYW hi] | rw [qWJ hp hi, qYX hi] | rw [qWY hp hi, qYW hi]
     refine yZ ?_
     refine qQ ?_
     refine yX rfl (hc55) ?_
     refine qZ ?_
     refine qY (qU rfl) rfl rfl rfl ?_
     refine kH (F := vI) hs en27 rfl (fun w' h => kG _ (by first | omega | assumption | (unfold In64; omega) | decide) w' h) rfl rfl ?_; intro r59 hr59
     have br59 := qQZ hr59 (by first | decide | omega)
     refine qY (qQW rfl (by first | exact qJZ ⟨by omega, by omega⟩ | rfl)) rfl rfl rfl ?_
     refine qY (jZ rfl rfl (by first | exact zW ⟨by omega, by omega⟩ | rfl)) rfl rfl rfl ?_
     refine qY (qU rfl) rfl rfl rfl ?_
     refine kH (F := vI) hs en27 rfl (fun w' h => kG _ (by first | omega | assumption | (unfold In64; omega) | decide) w' h) rfl rfl ?_; intro r63 hr63
     have br63 := qQZ hr63 (by first | decide | omega)
     refine qY (jZ rfl rfl (by first | exact zW ⟨by omega, by omega⟩ | rfl)) rfl rfl rfl ?_
     refine qY (qV zQX rfl) rfl rfl rfl ?_
     refine qG 5 ty2 rfl rfl rfl rfl rfl rfl rfl rfl ?_
     refine qY (qV zQU rfl) rfl rfl rfl ?_
     refine qG 5 ty2 rfl rfl rfl rfl rfl rfl rfl rfl ?_
     refine qJ ?_
     refine zZ ?_
     refine qQ ?_
     refine qK ?_
     refine qZ ?_
     refine qY (zJ 5 ty70 rfl rfl rfl) rfl rfl rfl ?_
     refine qG 4 ty70 rfl rfl rfl rfl rfl rfl rfl rfl ?_
     refine qJ ?_
     refine qQ ?_
     refine zV ?_
     refine zK (rs := [.cell 4 70]) rfl (resC (zU 4 rfl rfl ty70 rfl) (resN)) ?_
     subst_vars; rfl
    ·
     have hk4 : ¬ qQH (srcR L (i + 2) 8) = 4 := by have := of_decide_eq_false hc55; rw [hr19] at this; exact this
     refine qZ ?_
     refine qY (uX rfl rfl) rfl rfl rfl ?_
     refine qY (qX rfl) rfl rfl rfl ?_
     refine qJ ?_
     refine qQ ?_
     refine yH rfl (fun hc55_2 => ?_) (fun hc55_2 => ?_)
     ·
      have hk5 : qQH (srcR L (i + 2) 8) = 5 := by have := of_decide_eq_true hc55_2; rw [hr19] at this; exact this
      rw [qXU (.inr hk5)]
      first | rw [qWU hp hi, qYX hi] | rw [qWK hp hi, qYW hi] | rw [qWJ hp hi, qYX hi] | rw [qWY hp hi, qYW hi]
      refine qZ ?_
      refine qY (qU rfl) rfl rfl rfl ?_
      refine kH (F := vI) hs en27 rfl (fun w' h => kG _ (by first | omega | assumption | (unfold In64; omega) | decide) w' h) rfl rfl ?_; intro r59 hr59
      have br59 := qQZ hr59 (by first | decide | omega)
      refine qY (qQW rfl (by first | exact qJZ ⟨by omega, by omega⟩ | rfl)) rfl rfl rfl ?_
      refine qY (jZ rfl rfl (by first | exact zW ⟨by omega, by omega⟩ | rfl)) rfl rfl rfl ?_
      refine qY (qU rfl) rfl rfl rfl ?_
      refine kH (F := vI) hs en27 rfl (fun w' h => kG _ (by first | omega | assumption | (unfold In64; omega) | decide) w' h) rfl rfl ?_; intro r63 hr63
      have br63 := qQZ hr63 (by first | decide | omega)
      refine qY (jZ rfl rfl (by first | exact zW ⟨by omega, by omega⟩ | rfl)) rfl rfl rfl ?_
      refine qY (qV zQX rfl) rfl rfl rfl ?_
      refine qG 5 ty2 rfl rfl rfl rfl rfl rfl rfl rfl ?_
      refine qY (qV zQU rfl) rfl rfl rfl ?_
      refine qG 5 ty2 rfl rfl rfl rfl rfl rfl rfl rfl ?_
      refine qJ ?_
      refine zZ ?_
      refine qQ ?_
      refine qK ?_
      refine qZ ?_
      refine qY (zJ 5 ty70 rfl rfl rfl) rfl rfl rfl ?_
      refine qG 4 ty70 rfl rfl rfl rfl rfl rfl rfl rfl ?_
      refine qJ ?_
      refine qQ ?_
      refine zV ?_
      refine zK (rs := [.cell 4 70]) rfl (resC (zU 4 rfl rfl ty70 rfl) (resN)) ?_
      subst_vars; rfl
     ·
      have hk5 : ¬ qQH (srcR L (i + 2) 8) = 5 := by have := of_decide_eq_false hc55_2; rw [hr19] at this; exact this
      rw [jointOf_tu hk0 (by omega)]
      first | rw [qWU hp hi, qYX hi] | rw [qWK hp hi, qYW hi] | rw [qWJ hp hi, qYX hi] | rw [qWY hp hi, qYW hi]
      refine qZ ?_
      refine qY (qU rfl) rfl rfl rfl ?_
      refine kH (F := vI) hs en27 rfl (fun w' h => kG _ (by first | omega | assumption | (unfold In64; omega) | decide) w' h) rfl rfl ?_; intro r39 hr39
      have br39 := qQZ hr39 (by first | decide | omega)
      refine qY (qQW rfl (by first | exact qJZ ⟨by omega, by omega⟩ | rfl)) rfl rfl rfl ?_
      refine qY (jZ rfl rfl (by first | exact zW ⟨by omega, by omega⟩ | rfl)) rfl rfl rfl ?_
      refine qY (qJQ rfl rfl (by first | decide | omega) (quo8 (by omega))) rfl rfl rfl ?_
      refine qY (qU rfl) rfl rfl rfl ?_
      refine kH (F := vI) hs en27 rfl (fun w' h => kG _ (by first | omega | assumption | (unfold In64; omega) | decide) w' h) rfl rfl ?_; intro r44 hr44
      have br44 := qQZ hr44 (by first | decide | omega)
      refine qY (yK rfl rfl (by first | exact zW ⟨by omega, by omega⟩ | rfl)) rfl rfl rfl ?_
      refine qY (jZ rfl rfl (by first | exact zW ⟨by omega, by omega⟩ | rfl)) rfl rfl rfl ?_
      refine qY (qJQ rfl rfl (by first | decide | omega) (quo8 (by omega))) rfl rfl rfl ?_
      refine qY (qU rfl) rfl rfl rfl ?_
      refine kH (F := vI) hs en27 rfl (fun w' h => kG _ (by first | omega | assumption | (unfold In64; omega) | decide) w' h) rfl rfl ?_; intro r49 hr49
      have br49 := qQZ hr49 (by first | decide | omega)
      refine qY (yK rfl rfl (hi8 br44 br49)) rfl rfl rfl ?_
      refine qY (qV zQX rfl) rfl rfl rfl ?_
      refine qG 5 ty2 rfl rfl rfl rfl rfl rfl rfl rfl ?_
      refine qY (qV zQU rfl) rfl rfl rfl ?_
      refine qG 5 ty2 rfl rfl rfl rfl rfl rfl rfl rfl ?_
      refine qJ ?_
      refine zZ ?_
      refine qQ ?_
      refine qK ?_
      refine qZ ?_
      refine qY (zJ 5 ty70 rfl rfl rfl) rfl rfl rfl ?_
      refine qG 4 ty70 rfl rfl rfl rfl rfl rfl rfl rfl ?_
      refine qJ ?_
      refine qQ ?_
      refine zV ?_
      refine zK (rs := [.cell 4 70]) rfl (resC (zU 4 rfl rfl ty70 rfl) (resN)) ?_
      subst_vars; rfl
  ·
   have hi : ¬ 0 < k := of_decide_eq_false hc27
   refine yZ ?_
   refine qQ ?_
   refine qK ?_
   refine qK ?_
   refine qZ ?_
   refine qY (qV zQW rfl) rfl rfl rfl ?_
   refine qY (zY 5 ty3 rfl rfl rfl) rfl rfl rfl ?_
   refine qJ ?_
   refine qQ ?_
   refine yJ ?_
   refine qK ?_
   refine qZ ?_
   refine qY (uX rfl rfl) rfl rfl rfl ?_
   refine qY (qX rfl) rfl rfl rfl ?_
   refine qJ ?_
   refine qQ ?_
   refine yH rfl (fun hc53 => ?_) (fun hc53 => ?_)
   ·
    have hk0 : qQH (srcR L (i + 2) 8) = 0 := by have := of_decide_eq_true hc53; rw [hr19] at this; exact this
    rw [jointOf_fix hk0]
    first | rw [qWU hp hi, qYX hi] | rw [qWK hp hi, qYW hi] | rw [qWJ hp hi, qYX hi] | rw [qWY hp hi, qYW hi]
    refine yZ ?_
    refine zZ ?_
    refine qQ ?_
    refine qK ?_
    refine qZ ?_
    refine qY (zJ 5 ty70 rfl rfl rfl) rfl rfl rfl ?_
    refine qG 4 ty70 rfl rfl rfl rfl rfl rfl rfl rfl ?_
    refine qJ ?_
    refine qQ ?_
    refine zV ?_
    refine zK (rs := [.cell 4 70]) rfl (resC (zU 4 rfl rfl ty70 rfl) (resN)) ?_
    subst_vars; rfl
   ·
    have hk0 : ¬ qQH (srcR L (i + 2) 8) = 0 := by have := of_decide_eq_false hc53; rw [hr19] at this; exact this
    refine qK ?_
    refine qK ?_
    refine qZ ?_
    refine qY (uX rfl rfl) rfl rfl rfl ?_
    refine qY (qX rfl) rfl rfl rfl ?_
    refine qJ ?_
    refine qQ ?_
    refine yH rfl (fun hc55 => ?_) (fun hc55 => ?_)
    ·
     have hk4 : qQH (srcR L (i + 2) 8) = 4 := by have := of_decide_eq_true hc55; rw [hr19] at this; exact this
     rw [qXU (.inl hk4)]
     first | rw [qWU hp hi, qYX hi] | rw [qWK hp hi, qYW hi] | rw [qWJ hp hi, qYX hi] | rw [qWY hp hi, qYW hi]
     refine yZ ?_
     refine qQ ?_
     refine yX rfl (hc55) ?_
     refine qZ ?_
     refine qY (qU rfl) rfl rfl rfl ?_
     refine kH (F := vI) hs en27 rfl (fun w' h => kG _ (by first | omega | assumption | (unfold In64; omega) | decide) w' h) rfl rfl ?_; intro r59 hr59
     have br59 := qQZ hr59 (by first | decide | omega)
     refine qY (qQW rfl (by first | exact qJZ ⟨by omega, by omega⟩ | rfl)) rfl rfl rfl ?_
     refine qY (jZ rfl rfl (by first | exact zW ⟨by omega, by omega⟩ | rfl)) rfl rfl rfl ?_
     refine qY (qU rfl) rfl rfl rfl ?_
     refine kH (F := vI) hs en27 rfl (fun w' h => kG _ (by first | omega | assumption | (unfold In64; omega) | decide) w' h) rfl rfl ?_; intro r63 hr63
     have br63 := qQZ hr63 (by first | decide | omega)
     refine qY (jZ rfl rfl (by first | exact zW ⟨by omega, by omega⟩ | rfl)) rfl rfl rfl ?_
     refine qY (qV zQX rfl) rfl rfl rfl ?_
     refine qG 5 ty2 rfl rfl rfl rfl rfl rfl rfl rfl ?_
     refine qY (qV zQU rfl) rfl rfl rfl ?_
     refine qG 5 ty2 rfl rfl rfl rfl rfl rfl rfl rfl ?_
     refine qJ ?_
     refine zZ ?_
     refine qQ ?_
     refine qK ?_
     refine qZ ?_
     refine qY (zJ 5 ty70 rfl rfl rfl) rfl rfl rfl ?_
     refine qG 4 ty70 rfl rfl rfl rfl rfl rfl rfl rfl ?_
     refine qJ ?_
     refine qQ ?_
     refine zV ?_
     refine zK (rs := [.cell 4 70]) rfl (resC (zU 4 rfl rfl ty70 rfl) (resN)) ?_
     subst_vars; rfl
    ·
     have hk4 : ¬ qQH (srcR L (i + 2) 8) = 4 := by have := of_decide_eq_false hc55; rw [hr19] at this; exact this
     refine qZ ?_
     refine qY (uX rfl rfl) rfl rfl rfl ?_
     refine qY (qX rfl) rfl rfl rfl ?_
     refine qJ ?_
     refine qQ ?_
     refine yH rfl (fun hc55_2 => ?_) (fun hc55_2 => ?_)
     ·
      have hk5 : qQH (srcR L (i + 2) 8) = 5 := by have := of_decide_eq_true hc55_2; rw [hr19] at this; exact this
      rw [qXU (.inr hk5)]
      first | rw [qWU hp hi, qYX hi] | rw [qWK hp hi, qYW hi] | rw [qWJ hp hi, qYX hi] | rw [qWY hp hi, qYW hi]
      refine qZ ?_
      refine qY (qU rfl) rfl rfl rfl ?_
      refine kH (F := vI) hs en27 rfl (fun w' h => kG _ (by first | omega | assumption | (unfold In64; omega) | decide) w' h) rfl rfl ?_; intro r59 hr59
      have br59 := qQZ hr59 (by first | decide | omega)
      refine qY (qQW rfl (by first | exact qJZ ⟨by omega, by omega⟩ | rfl)) rfl rfl rfl ?_
      refine qY (jZ rfl rfl (by first | exact zW ⟨by omega, by omega⟩ | rfl)) rfl rfl rfl ?_
      refine qY (qU rfl) rfl rfl rfl ?_
      refine kH (F := vI) hs en27 rfl (fun w' h => kG _ (by first | omega | assumption | (unfold In64; omega) | decide) w' h) rfl rfl ?_; intro r63 hr63
      have br63 := qQZ hr63 (by first | decide | omega)
      refine qY (jZ rfl rfl (by first | exact zW ⟨by omega, by omega⟩ | rfl)) rfl rfl rfl ?_
      refine qY (qV zQX rfl) rfl rfl rfl ?_
      refine qG 5 ty2 rfl rfl rfl rfl rfl rfl rfl rfl ?_
      refine qY (qV zQU rfl) rfl rfl rfl ?_
      refine qG 5 ty2 rfl rfl rfl rfl rfl rfl rfl rfl ?_
      refine qJ ?_
      refine zZ ?_
      refine qQ ?_
      refine qK ?_
      refine qZ ?_
      refine qY (zJ 5 ty70 rfl rfl rfl) rfl rfl rfl ?_
      refine qG 4 ty70 rfl rfl rfl rfl rfl rfl rfl rfl ?_
      refine qJ ?_
      refine qQ ?_
      refine zV ?_
      refine zK (rs := [.cell 4 70]) rfl (resC (zU 4 rfl rfl ty70 rfl) (resN)) ?_
      subst_vars; rfl
     ·
      have hk5 : ¬ qQH (srcR L (i + 2) 8) = 5 := by have := of_decide_eq_false hc55_2; rw [hr19] at this; exact this
      rw [jointOf_tu hk0 (by omega)]
      first | rw [qWU hp hi, qYX hi] | rw [qWK hp hi, qYW hi] | rw [qWJ hp hi, qYX hi] | rw [qWY hp hi, qYW hi]
      refine qZ ?_
      refine qY (qU rfl) rfl rfl rfl ?_
      refine kH (F := vI) hs en27 rfl (fun w' h => kG _ (by first | omega | assumption | (unfold In64; omega) | decide) w' h) rfl rfl ?_; intro r39 hr39
      have br39 := qQZ hr39 (by first | decide | omega)
      refine qY (qQW rfl (by first | exact qJZ ⟨by omega, by omega⟩ | rfl)) rfl rfl rfl ?_
      refine qY (jZ rfl rfl (by first | exact zW ⟨by omega, by omega⟩ | rfl)) rfl rfl rfl ?_
      refine qY (qJQ rfl rfl (by first | decide | omega) (quo8 (by omega))) rfl rfl rfl ?_
      refine qY (qU rfl) rfl rfl rfl ?_
      refine kH (F := vI) hs en27 rfl (fun w' h => kG _ (by first | omega | assumption | (unfold In64; omega) | decide) w' h) rfl rfl ?_; intro r44 hr44
      have br44 := qQZ hr44 (by first | decide | omega)
      refine qY (yK rfl rfl (by first | exact zW ⟨by omega, by omega⟩ | rfl)) rfl rfl rfl ?_
      refine qY (jZ rfl rfl (by first | exact zW ⟨by omega, by omega⟩ | rfl)) rfl rfl rfl ?_
      refine qY (qJQ rfl rfl (by first | decide | omega) (quo8 (by omega))) rfl rfl rfl ?_
      refine qY (qU rfl) rfl rfl rfl ?_
      refine kH (F := vI) hs en27 rfl (fun w' h => kG _ (by first | omega | assumption | (unfold In64; omega) | decide) w' h) rfl rfl ?_; intro r49 hr49
      have br49 := qQZ hr49 (by first | decide | omega)
      refine qY (yK rfl rfl (hi8 br44 br49)) rfl rfl rfl ?_
      refine qY (qV zQX rfl) rfl rfl rfl ?_
      refine qG 5 ty2 rfl rfl rfl rfl rfl rfl rfl rfl ?_
      refine qY (qV zQU rfl) rfl rfl rfl ?_
      refine qG 5 ty2 rfl rfl rfl rfl rfl rfl rfl rfl ?_
      refine qJ ?_
      refine zZ ?_
      refine qQ ?_
      refine qK ?_
      refine qZ ?_
      refine qY (zJ 5 ty70 rfl rfl rfl) rfl rfl rfl ?_
      refine qG 4 ty70 rfl rfl rfl rfl rfl rfl rfl rfl ?_
      refine qJ ?_
      refine qQ ?_
      refine zV ?_
      refine zK (rs := [.cell 4 70]) rfl (resC (zU 4 rfl rfl ty70 rfl) (resN)) ?_
      subst_vars; rfl
end Go.Proofs.YtmbnpjpggccefaaGreat
namespace Go.Proofs.YtmbnpjpggccefaaGreat
open Go.Sx
theorem ze25 : qQV Tryz.prog 25 (.agg #[.slice none 0 0, .slice none 0 0]) := by unfold qQV; kernel_rfl
theorem zZY : qWQ Tryz.prog 25 0 0 = true := by kernel_rfl
theorem ty22 : tyB Tryz.prog 22 false 1 = true := by kernel_rfl
theorem en56 : jU Tryz.prog 56 := zG Tryz.func56 (by kernel_rfl) (by kernel_rfl)
theorem sl22 : slcB Tryz.prog 22 70 12 = true := by kernel_rfl
theorem app22 : appB Tryz.prog 22 70 12 104 = true := by kernel_rfl
theorem fa25_1 : qWQ Tryz.prog 25 1 1 = true := by kernel_rfl
theorem ty23 : tyB Tryz.prog 23 false 1 = true := by kernel_rfl
theorem la113 : qYZ Tryz.prog 113 = some ([.int .i64 0, .int .i64 0, .int .i64 0, .int .i64 0, .int .i64 0], [(0, 1), (1, 1), (2, 3)]) := by kernel_rfl
theorem sl23 : slcB Tryz.prog 23 113 5 = true := by kernel_rfl
theorem ze113 : qQV Tryz.prog 113 (.agg #[.int .i64 0, .int .i64 0, .int .i64 0, .int .i64 0, .int .i64 0]) := by unfold qQV; kernel_rfl
theorem app23 : appB Tryz.prog 23 113 5 40 = true := by kernel_rfl
theorem ty25 : tyB Tryz.prog 25 true 2 = true := by kernel_rfl
theorem own_capK {m e sz cap k : Nat} {a : Option Addr} {ys : List Value} {w : World} (h : OwnF m e sz a cap k ys w) : k ≤ cap := by
 rcases h.2 with ⟨h1, h2⟩ | ⟨gg, cp, cur, hv, _, _, hc, _⟩
 ·omega
 ·simp only [Value.slice.injEq] at hv
  omega
theorem zQZ {k : Nat} (h : k ≤ 1000000) : IntKind.i64.wrap ((k : Int) + 1) = ((k + 1 : Nat) : Int) := by
 refine (zW ?_).trans ?_ <;> omega
theorem dec_rem {n k : Nat} (hn : n ≤ 1000) (h : k < n) : IntKind.i64.wrap (((n - k : Nat) : Int) - 1) = ((n - (k + 1) : Nat) : Int) := by
 refine (zW ?_).trans ?_ <;> omega
theorem mkRobot {b : Nat} {sl : Value} {L : List Int} {i : Nat} (w : World) (hs : Src w b sl L i) : Calls Tryz.prog 26 [.pointer (some ⟨b, 0, none⟩)].toArray w (RetsF (X := (Option Addr × Nat) × (Option Addr × Nat)) (fun x => nJ L i ≤ x.1.2 ∧ nM L i ≤ x.2.2) (fun x => .agg #[.slice x.1.1 (nJ L i) x.1.2, .slice x.2.1 (nM L i) x.2.2]) (fun x w => SlcIs 12 x.1.1 ((jsOf L i (nJ L i)).1.map jc) w ∧ SlcIs 5 x.2.1 ((msOf L i (nM L i)).map mc) w) (srcW w b sl L (robQ L i))) := by
 refine calls_src (n := 49) hs Tryz.func26 rfl rfl rfl ?_
 refine qK ?_
 refine qZ ?_
 refine yQ 2 ze25 rfl rfl rfl ?_; intro b2
 refine qJ ?_
 refine qQ ?_
 refine qK ?_
 refine qZ ?_
 refine yQ 3 ze25 rfl rfl rfl ?_; intro b3
 refine qJ ?_
 refine qQ ?_
 refine qK ?_
 refine doC_ownA 100 70 12 ?_
 refine doC_ownA 101 113 5 ?_
 have hn := nJ_b L i
 have hm := nM_b L i
 refine qZ ?_
 refine qY (qU rfl) rfl rfl rfl ?_
 refine kH (F := vI) hs en27 rfl (fun w' h => kG _ (by first | omega | assumption | (unfold In64; omega) | decide) w' h) rfl rfl ?_; intro r8 hr8
 have br8 := qQZ hr8 (by first | decide | omega)
 refine qY (yK rfl rfl (by first | exact zW ⟨by omega, by omega⟩ | rfl)) rfl rfl rfl ?_
 refine qY (qX rfl) rfl rfl rfl ?_
 refine qJ ?_
 refine qQ ?_
 refine qK ?_
 refine qK ?_
 refine qZ ?_
 refine qY (qX rfl) rfl rfl rfl ?_
 refine qJ ?_
 refine qQ ?_
 refine yJ ?_
 refine doC_loopK [0, 2, 3, 4] [2] (α := Nat × Option Addr × Nat) (fun x => nJ L i - x.1) (fun x => x.1 ≤ nJ L i) (fun x => srcB ⟨w, [(101, ownD none, OwnF 0 113 5 none 0 0 []), (100, ownD x.2.1, OwnF 0 70 12 x.2.1 x.2.2 x.1 (jsC L i x.1))]⟩ b sl L (jsOf L i x.1).2) (fun x => [(5, .int .i64 (x.1 : Int))]) (fun x => [(3, b3, [.slice x.2.1 x.1 x.2.2, .slice none 0 0], 25)]) (0, none, 0) rfl rfl ?_ ?_ ?_ ?_ rfl ?_
 ·
  exact Nat.zero_le _
 ·
  exact rfl
 ·
  repeat' first | exact trivial | exact True.intro | refine ⟨rfl, ?_⟩
 ·
  repeat' first | exact trivial | exact True.intro | refine ⟨rfl, ?_⟩
 rintro ⟨k, a, cap⟩ hk
 dsimp only at hk ⊢
 refine qK ?_
 refine qK ?_
 refine qZ ?_
 refine qY (qU rfl) rfl rfl rfl ?_
 refine qY (qU rfl) rfl rfl rfl ?_
 refine qY (kX rfl rfl) rfl rfl rfl ?_
 refine qJ ?_
 refine qQ ?_
 refine yH rfl (fun hc12 => ?_) (fun hc12 => ?_)
 ·
  have h2 : k < nJ L i := by have := of_decide_eq_true hc12; omega
  refine yZ ?_
  refine qQ ?_
  refine qK ?_
  refine yJ ?_
  refine doC_srcA 6 [4] hs mo (by kernel_rfl) ?_
  simp only [List.take_succ_cons, List.take_zero, List.drop_succ_cons, List.drop_zero]
  refine qKV (fun _ => qV zZY rfl) rfl rfl rfl rfl ?_
  refine qKV (fun _ => zY 3 ty22 rfl rfl rfl) rfl rfl rfl rfl ?_
  refine qKV (fun _ => qU rfl) rfl rfl rfl rfl ?_
  refine qKV (fun _ => qU rfl) rfl rfl rfl rfl ?_
  refine doM_srcA (F := jv) hs en56 rfl (fun w' h => mkJoint _ (by first | omega | assumption | (unfold In64; omega) | decide) w' h) rfl rfl rfl ?_; intro r19 hr19
  refine doM_bslice (famA hs _) sl22 ze70 rfl rfl rfl rfl rfl rfl rfl rfl rfl rfl ?_
  refine doM_nil ?_
  refine tail_row ?_; intro bb20
  refine tail_appendA 100 app22 rfl rfl rfl rfl rfl rfl (by omega) (by omega) rfl rfl ?_; intro a21 c21 R21 hR21
  obtain rfl := Option.some.inj hR21
  refine qY (qV zZY rfl) rfl rfl rfl ?_
  refine qG 3 ty22 rfl rfl rfl rfl rfl rfl rfl rfl ?_
  refine qJ ?_
  refine zZ ?_
  refine qQ ?_
  refine qZ ?_
  refine qY (qU rfl) rfl rfl rfl ?_
  refine qY (yK rfl rfl (zQZ (by omega))) rfl rfl rfl ?_
  refine qY (qX rfl) rfl rfl rfl ?_
  refine qJ ?_
  refine qYV (k + 1, a21, c21) (by show k + 1 ≤ _; omega) (by show nJ L i - (k + 1) < nJ L i - k; omega) (by dsimp only; rw [jsC_succ, ← hr19]; rfl) ?_ ?_ rfl
  repeat' first | exact trivial | exact True.intro | refine ⟨rfl, ?_⟩
 ·
  obtain rfl : k = nJ L i := by have := of_decide_eq_false hc12; omega
  refine qUK ?_
  refine jV ?_
  refine jV ?_
  refine uY ?_
  refine qQ ?_
  refine qK ?_
  refine qK ?_
  refine qZ ?_
  refine qY (qU rfl) rfl rfl rfl ?_
  refine kH (F := vI) hs en27 rfl (fun w' h => kG _ (by first | omega | assumption | (unfold In64; omega) | decide) w' h) rfl rfl ?_; intro r24 hr24
  have br24 := qQZ hr24 (by first | decide | omega)
  obtain rfl : r24 = ((nM L i : Nat) : Int) := by rw [hr24]; exact hm.2.symm
  refine qY (qX rfl) rfl rfl rfl ?_
  refine qJ ?_
  refine qQ ?_
  refine yJ ?_
  refine doC_loopK [0, 2, 3, 4] [2] (α := Nat × Option Addr × Nat) (fun x => nM L i - x.1) (fun x => x.1 ≤ nM L i) (fun x => srcB ⟨w, [(101, ownD x.2.1, OwnF 0 113 5 x.2.1 x.2.2 x.1 (msC L i x.1)), (100, ownD a, OwnF 0 70 12 a cap (nJ L i) (jsC L i (nJ L i)))]⟩ b sl L (mQ L i + 1 + 4 * x.1)) (fun x => [(6, .int .i64 ((nM L i - x.1 : Nat) : Int))]) (fun x => [(3, b3, [.slice a (nJ L i) cap, .slice x.2.1 x.1 x.2.2], 25)]) (0, none, 0) rfl rfl ?_ ?_ ?_ ?_ rfl ?_
  ·
   exact Nat.zero_le _
  ·
   exact rfl
  ·
   repeat' first | exact trivial | exact True.intro | refine ⟨rfl, ?_⟩
  ·
   repeat' first | exact trivial | exact True.intro | refine ⟨rfl, ?_⟩
  rintro ⟨k2, a2, cap2⟩ hk2
  dsimp only at hk2 ⊢
  refine qK ?_
  refine qK ?_
  refine qZ ?_
  refine qY (qU rfl) rfl rfl rfl ?_
  refine qY (opV_gtr rfl rfl) rfl rfl rfl ?_
  refine qJ ?_
  refine qQ ?_
  refine yH rfl (fun hc26 => ?_) (fun hc26 => ?_)
  ·
   have h3 : k2 < nM L i := by have := of_decide_eq_true hc26; omega
   refine yZ ?_
   refine qQ ?_
   refine qK ?_
   refine yJ ?_
   refine doC_srcA 17 [4, 6, 9, 12] hs mo (by kernel_rfl) ?_
   simp only [List.take_succ_cons, List.take_zero, List.drop_succ_cons, List.drop_zero]
   refine qKV (fun _ => qV fa25_1 rfl) rfl rfl rfl rfl ?_
   refine qKV (fun _ => zY 3 ty23 rfl rfl rfl) rfl rfl rfl rfl ?_
   refine qKV (fun _ => qU rfl) rfl rfl rfl rfl ?_
   refine qKV (fun _ => qU rfl) rfl rfl rfl rfl ?_
   refine doM_srcA (F := vI) hs en27 rfl (fun w' h => kG _ (by first | omega | assumption | (unfold In64; omega) | decide) w' h) rfl rfl rfl ?_; intro r33 hr33
   have br33 := qQZ hr33 (by first | decide | omega)
   refine qKV (fun _ => qU rfl) rfl rfl rfl rfl ?_
   refine doM_srcA (F := vI) hs en27 rfl (fun w' h => kG _ (by first | omega | assumption | (unfold In64; omega) | decide) w' h) rfl rfl rfl ?_; intro r35 hr35
   have br35 := qQZ hr35 (by first | decide | omega)
   refine qKV (fun _ => yK rfl rfl (by first | exact zW ⟨by omega, by omega⟩ | rfl)) rfl rfl rfl rfl ?_
   refine qKV (fun _ => qU rfl) rfl rfl rfl rfl ?_
   refine doM_srcA (F := vI) hs en29 rfl (fun w' h => qWX _ (by first | omega | assumption | (unfold In64; omega) | decide) w' h) rfl rfl rfl ?_; intro r38 hr38
   have br38 := zZJ hr38 (by first | decide | omega)
   refine qKV (fun _ => jZ rfl rfl (by first | exact zW ⟨by omega, by omega⟩ | rfl)) rfl rfl rfl rfl ?_
   refine qKV (fun _ => qU rfl) rfl rfl rfl rfl ?_
   refine doM_srcA (F := vI) hs en29 rfl (fun w' h => qWX _ (by first | omega | assumption | (unfold In64; omega) | decide) w' h) rfl rfl rfl ?_; intro r41 hr41
   have br41 := zZJ hr41 (by first | decide | omega)
   refine qKV (fun _ => jZ rfl rfl (by first | exact zW ⟨by omega, by omega⟩ | rfl)) rfl rfl rfl rfl ?_
   refine qKV (fun _ => zH la39 rfl rfl) rfl rfl rfl rfl ?_
   refine qKV (fun _ => zH la113 rfl rfl) rfl rfl rfl rfl ?_
   refine doM_bslice (famA hs _) sl23 ze113 rfl rfl rfl rfl rfl rfl rfl rfl rfl rfl ?_
   refine doM_nil ?_
   refine tail_row ?_; intro bb45
   refine tail_appendA 101 app23 rfl rfl rfl rfl rfl rfl (by omega) (by omega) rfl rfl ?_; intro a46 c46 R46 hR46
   obtain rfl := Option.some.inj hR46
   refine qY (qV fa25_1 rfl) rfl rfl rfl ?_
   refine qG 3 ty23 rfl rfl rfl rfl rfl rfl rfl rfl ?_
   refine qJ ?_
   refine zZ ?_
   refine qQ ?_
   refine qZ ?_
   refine qY (qU rfl) rfl rfl rfl ?_
   refine qY (jG rfl rfl (dec_rem (by omega) h3)) rfl rfl rfl ?_
   refine qY (qX rfl) rfl rfl rfl ?_
   refine qJ ?_
   refine qYV (k2 + 1, a46, c46) (by show k2 + 1 ≤ _; omega) (by show nM L i - (k2 + 1) < nM L i - k2; omega) (by dsimp only; rw [msC_succ, hr33, hr35, hr38, hr41, hr8, hn.2.2]; rfl) ?_ ?_ rfl
   repeat' first | exact trivial | exact True.intro | refine ⟨rfl, ?_⟩
  ·
   obtain rfl : k2 = nM L i := by have := of_decide_eq_false hc26; omega
   refine qUK ?_
   refine jV ?_
   refine jV ?_
   refine uY ?_
   refine qQ ?_
   refine qK ?_
   refine qZ ?_
   refine qY (zJ 3 ty25 rfl rfl rfl) rfl rfl rfl ?_
   refine qG 2 ty25 rfl rfl rfl rfl rfl rfl rfl rfl ?_
   refine qJ ?_
   refine qQ ?_
   refine zV ?_
   refine qKZ (rs := [.cell 2 25]) rfl (resC (zU 2 rfl rfl ty25 rfl) (resN)) rfl ?_
   intro w2 kn
   obtain ⟨_, q2, q3⟩ := kn.facts _ List.mem_cons_self
   obtain ⟨_, q5, q6⟩ := kn.facts _ (List.mem_cons_of_mem _ List.mem_cons_self)
   exact ⟨((a, cap), (a2, cap2)), ⟨own_capK q6, own_capK q3⟩, rfl, kn.grow, told_and ⟨ownD a, slc_dep _ _ _, fun q hq => ⟨(q5 q hq).1, (q5 q hq).2.1⟩, js_slc q6⟩ ⟨ownD a2, slc_dep _ _ _, fun q hq => ⟨(q2 q hq).1, (q2 q hq).2.1⟩, ms_slc q3⟩⟩
end Go.Proofs.YtmbnpjpggccefaaGreat
namespace Go.Proofs.YtmbnpjpggccefaaGreat
open Go.Sx
theorem sl30 : slcB Tryz.prog 30 71 2 = true := by kernel_rfl
end Go.Proofs.YtmbnpjpggccefaaGreat

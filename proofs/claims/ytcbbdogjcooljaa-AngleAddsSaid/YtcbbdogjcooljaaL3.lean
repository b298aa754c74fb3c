/- The walk of AngleAdds. No condition. -/
import Derived.Test.YtcbbdogjcooljaaProg
import Derived.Test.YtcbbdogjcooljaaSxIdx
import Derived.Test.YtcbbdogjcooljaaSxLate
import Derived.Test.YtcbbdogjcooljaaUnit3
import Derived.Test.YtcbbdogjcooljaaA1
import Derived.Test.YtcbbdogjcooljaaA2
import Derived.Test.YtcbbdogjcooljaaL1
namespace Go.Proofs.Ytcbbdogjcooljaa
open Go.Sx
theorem en23 : Enters Try.prog 23 := enters_of Try.func23 (by kernel_rfl) (by kernel_rfl)
theorem en19 : Enters Try.prog 19 := enters_of Try.func19 (by kernel_rfl) (by kernel_rfl)
theorem en24 : Enters Try.prog 24 := enters_of Try.func24 (by kernel_rfl) (by kernel_rfl)
theorem en25 : Enters Try.prog 25 := enters_of Try.func25 (by kernel_rfl) (by kernel_rfl)

theorem meet_snd (a b : Iv) : (Iv.meet a b).2 = Iv.meetB a b := by
  unfold Iv.meet; cases Iv.meetB a b <;> rfl

theorem wAdds (a : Int) (b : Int) (ha : In64 a) (hb : In64 b) (w : World) : Calls Try.prog 8 [.int .i64 a, .int .i64 b].toArray w (Rets (vB (true)) w) := by
  refine calls_of_doC (n := 66) Try.func8 rfl rfl rfl ?_
  refine doC_seq ?_
  refine doC_region ?_
  refine doL_v (opV_assign rfl) rfl rfl rfl ?_
  refine doL_nil ?_
  refine post_then ?_
  refine doC_seq ?_
  unfold In64 at ha hb
  refine doC_region ?_
  refine doL_v (opV_move rfl) rfl rfl rfl ?_
  refine doL_v (opV_shr rfl rfl (by first | decide | omega) shr_2) rfl rfl rfl ?_
  refine doL_v (opV_move rfl) rfl rfl rfl ?_
  refine doL_v (opV_shr rfl rfl (by first | decide | omega) shr_2) rfl rfl rfl ?_
  refine doL_v (opV_assign rfl) rfl rfl rfl ?_
  refine doL_v (opV_assign rfl) rfl rfl rfl ?_
  refine doL_nil ?_
  refine post_then ?_
  refine doC_seq ?_
  refine doC_region ?_
  refine doL_v (opV_move rfl) rfl rfl rfl ?_
  refine doL_vg (F := iv) (opV_call en13 rfl (fun w _ => aSin _  w)) rfl rfl rfl ?_; intro r20 hr20
  refine doL_v (opV_move rfl) rfl rfl rfl ?_
  refine doL_vg (F := iv) (opV_call en16 rfl (fun w _ => aCos _  w)) rfl rfl rfl ?_; intro r22 hr22
  refine doL_v (opV_move rfl) rfl rfl rfl ?_
  refine doL_vg (F := iv) (opV_call en13 rfl (fun w _ => aSin _  w)) rfl rfl rfl ?_; intro r24 hr24
  refine doL_v (opV_move rfl) rfl rfl rfl ?_
  refine doL_vg (F := iv) (opV_call en16 rfl (fun w _ => aCos _  w)) rfl rfl rfl ?_; intro r26 hr26
  refine doL_alloc 5 ze24 rfl rfl rfl ?_; intro b5
  refine doL_alloc 6 ze24 rfl rfl rfl ?_; intro b6
  refine doL_alloc 7 ze24 rfl rfl rfl ?_; intro b7
  refine doL_alloc 8 ze24 rfl rfl rfl ?_; intro b8
  refine doL_store 5 ty24 rfl rfl rfl rfl rfl rfl rfl rfl ?_
  refine doL_store 6 ty24 rfl rfl rfl rfl rfl rfl rfl rfl ?_
  refine doL_store 7 ty24 rfl rfl rfl rfl rfl rfl rfl rfl ?_
  refine doL_store 8 ty24 rfl rfl rfl rfl rfl rfl rfl rfl ?_
  refine doL_nil ?_
  refine post_then ?_
  refine doC_seq ?_
  refine doC_drawn 8 mo (by kernel_rfl) ?_
  simp only [List.take_succ_cons, List.take_zero, List.drop_succ_cons, List.drop_zero]
  refine doG_v (opV_loadA 5 ty24 rfl rfl rfl) rfl rfl rfl ?_
  refine doG_v (opV_loadA 8 ty24 rfl rfl rfl) rfl rfl rfl ?_
  refine doG_vg (F := iv) (opV_call en23 rfl (fun w _ => rMul _ _ _ _  w)) rfl rfl rfl ?_; intro r29 hr29
  refine doG_v (opV_loadA 6 ty24 rfl rfl rfl) rfl rfl rfl ?_
  refine doG_v (opV_loadA 7 ty24 rfl rfl rfl) rfl rfl rfl ?_
  refine doG_vg (F := iv) (opV_call en23 rfl (fun w _ => rMul _ _ _ _  w)) rfl rfl rfl ?_; intro r32 hr32
  refine doG_vg (F := iv) (opV_call en19 rfl (fun w _ => rAdd _ _ _ _  w)) rfl rfl rfl ?_; intro r33 hr33
  refine doG_alloc ze24 rfl rfl rfl rfl ?_
  refine doG_nil ?_
  refine tail_alloc 9 rfl ?_; intro b9_2
  refine tail_nil ?_
  refine doL_store 9 ty24 rfl rfl rfl rfl rfl rfl rfl rfl ?_
  refine doL_nil ?_
  refine post_then ?_
  refine doC_seq ?_
  refine doC_drawn 8 mo (by kernel_rfl) ?_
  simp only [List.take_succ_cons, List.take_zero, List.drop_succ_cons, List.drop_zero]
  refine doG_v (opV_loadA 6 ty24 rfl rfl rfl) rfl rfl rfl ?_
  refine doG_v (opV_loadA 8 ty24 rfl rfl rfl) rfl rfl rfl ?_
  refine doG_vg (F := iv) (opV_call en23 rfl (fun w _ => rMul _ _ _ _  w)) rfl rfl rfl ?_; intro r36 hr36
  refine doG_v (opV_loadA 5 ty24 rfl rfl rfl) rfl rfl rfl ?_
  refine doG_v (opV_loadA 7 ty24 rfl rfl rfl) rfl rfl rfl ?_
  refine doG_vg (F := iv) (opV_call en23 rfl (fun w _ => rMul _ _ _ _  w)) rfl rfl rfl ?_; intro r39 hr39
  refine doG_vg (F := iv) (opV_call en24 rfl (fun w _ => rSub _ _ _ _  w)) rfl rfl rfl ?_; intro r40 hr40
  refine doG_alloc ze24 rfl rfl rfl rfl ?_
  refine doG_nil ?_
  refine tail_alloc 10 rfl ?_; intro b10_2
  refine tail_nil ?_
  refine doL_store 10 ty24 rfl rfl rfl rfl rfl rfl rfl rfl ?_
  refine doL_nil ?_
  refine post_then ?_
  refine doC_seq ?_
  refine doC_late 10 8 (by repeat (first | exact putP_body | refine putP_then ?_ | refine putP_block ?_)) mo (by kernel_rfl) ?_
  simp only [List.take_succ_cons, List.take_zero, List.drop_succ_cons, List.drop_zero]
  refine doG_v (opV_move rfl) rfl rfl rfl ?_
  refine doG_v (opV_move rfl) rfl rfl rfl ?_
  refine doG_v (opV_add rfl rfl (by first | exact i64_in ⟨by omega, by omega⟩ | rfl)) rfl rfl rfl ?_
  refine doG_vg (F := iv) (opV_call en13 rfl (fun w _ => aSin _  w)) rfl rfl rfl ?_; intro r45 hr45
  refine doG_v (opV_loadA 9 ty24 rfl rfl rfl) rfl rfl rfl ?_
  refine doG_vg (F := ivB) (opV_call en25 rfl (fun w _ => rMeet _ _ _ _  w)) rfl rfl rfl ?_; intro r47 hr47
  refine doG_v (opV_move rfl) rfl rfl rfl ?_
  refine doG_v (opV_extract rfl rfl) rfl rfl rfl ?_
  refine doG_v (opV_extract rfl rfl) rfl rfl rfl ?_
  refine doG_alloc ze24 rfl rfl rfl rfl ?_
  refine doG_nil ?_
  refine tail_alloc 11 rfl ?_; intro b11_2
  refine tail_nil ?_
  refine doL_store 11 ty24 rfl rfl rfl rfl rfl rfl rfl rfl ?_
  refine doL_v (opV_assign rfl) rfl rfl rfl ?_
  refine doL_nil ?_
  refine post_then ?_
  refine doC_seq ?_
  refine doC_late 10 8 (by repeat (first | exact putP_body | refine putP_then ?_ | refine putP_block ?_)) mo (by kernel_rfl) ?_
  simp only [List.take_succ_cons, List.take_zero, List.drop_succ_cons, List.drop_zero]
  refine doG_v (opV_move rfl) rfl rfl rfl ?_
  refine doG_v (opV_move rfl) rfl rfl rfl ?_
  refine doG_v (opV_add rfl rfl (by first | exact i64_in ⟨by omega, by omega⟩ | rfl)) rfl rfl rfl ?_
  refine doG_vg (F := iv) (opV_call en16 rfl (fun w _ => aCos _  w)) rfl rfl rfl ?_; intro r54 hr54
  refine doG_v (opV_loadA 10 ty24 rfl rfl rfl) rfl rfl rfl ?_
  refine doG_vg (F := ivB) (opV_call en25 rfl (fun w _ => rMeet _ _ _ _  w)) rfl rfl rfl ?_; intro r56 hr56
  refine doG_v (opV_move rfl) rfl rfl rfl ?_
  refine doG_v (opV_extract rfl rfl) rfl rfl rfl ?_
  refine doG_v (opV_extract rfl rfl) rfl rfl rfl ?_
  refine doG_alloc ze24 rfl rfl rfl rfl ?_
  refine doG_nil ?_
  refine tail_alloc 13 rfl ?_; intro b13_2
  refine tail_nil ?_
  refine doL_store 13 ty24 rfl rfl rfl rfl rfl rfl rfl rfl ?_
  refine doL_v (opV_assign rfl) rfl rfl rfl ?_
  refine doL_nil ?_
  refine post_then ?_
  refine doC_seq ?_
  refine doC_region ?_
  refine doL_vg (F := vB) (opV_call en14 rfl (fun w _ => awake3   w)) rfl rfl rfl ?_; intro r59 hr59
  refine doL_v (opV_move rfl) rfl rfl rfl ?_
  refine doL_true 60 rfl (hr59) ?_
  refine doL_v (opV_move rfl) rfl rfl rfl ?_
  refine doL_v (opV_pick_t rfl rfl rfl rfl) rfl rfl rfl ?_
  refine doL_v (opV_move rfl) rfl rfl rfl ?_
  refine doL_true 63 rfl (by rw [hr47, hr45, hr33, hr29, hr32, hr20, hr22, hr24, hr26]; exact (meet_snd _ _).trans (adds_sin _ _)) ?_
  refine doL_v (opV_move rfl) rfl rfl rfl ?_
  refine doL_v (opV_pick_t rfl rfl rfl rfl) rfl rfl rfl ?_
  refine doL_v (opV_assign rfl) rfl rfl rfl ?_
  refine doL_nil ?_
  refine post_then ?_
  refine doC_ret ?_
  refine post_rets (rs := [.tmp 4]) rfl (resC (resIs_tmp rfl) (resN)) (congrArg (vB) (?_ : _ = true))
  rw [hr56, hr54, hr40, hr36, hr39, hr20, hr22, hr24, hr26]; exact (meet_snd _ _).trans (adds_cos _ _)

end Go.Proofs.Ytcbbdogjcooljaa

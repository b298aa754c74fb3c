/- PoseApplies holds of the program for every input.
No condition. -/
import Derived.Test.YtonampcmhhhffaaRows
import Derived.Test.YtonampcmhhhffaaLawS
import Derived.Test.YtonampcmhhhffaaQ1
namespace Go.Proofs.Ytonampcmhhhffaa.poseApplies
open Go.ChangeShapes Go.WideShapes Go.ChangeAt Go.RowKit Go.Sx
theorem own : ownKnob Try.prog.godebug = none := by kernel_rfl
theorem laid : laidOutB Try.prog = true := by kernel_rfl
theorem fl63 : flatB Try.prog 63 24 = true := by kernel_rfl
theorem fl34 : flatB Try.prog 34 6 = true := by kernel_rfl
set_option maxRecDepth 100000 in
theorem lifted (os : Os) (started : os.Started) (H : Type) (enc : TypeId × Value → H) :
    ReturnsInHanded {} Try.checked os 16 .any (Rows.poseAppliesSpec.pre6 enc Try.prog Try.f16 Rows.poseAppliesRow.domain false) (Rows.poseAppliesSpec.post enc Try.prog Try.f16 false true false false) := by
  refine returnsInHanded_of_change (C := Try.checked) own started (by kernel_rfl) Try.func16
    (ChangeSpec.witness6 (enc := enc) (C := Try.checked) false ⟨#[], #[.agg #[.int .i64 0, .int .i64 0, .int .i64 0, .int .i64 0, .int .i64 0, .int .i64 0, .int .i64 0, .int .i64 0, .int .i64 0, .int .i64 0, .int .i64 0, .int .i64 0, .int .i64 0, .int .i64 0, .int .i64 0, .int .i64 0, .int .i64 0, .int .i64 0, .int .i64 0, .int .i64 0, .int .i64 0, .int .i64 0, .int .i64 0, .int .i64 0], .agg #[.int .i64 0, .int .i64 0, .int .i64 0, .int .i64 0, .int .i64 0, .int .i64 0, .int .i64 0, .int .i64 0, .int .i64 0, .int .i64 0, .int .i64 0, .int .i64 0, .int .i64 0, .int .i64 0, .int .i64 0, .int .i64 0, .int .i64 0, .int .i64 0, .int .i64 0, .int .i64 0, .int .i64 0, .int .i64 0, .int .i64 0, .int .i64 0], .agg #[.int .i64 0, .int .i64 0, .int .i64 0, .int .i64 0, .int .i64 0, .int .i64 0], .slice none 0 0], []⟩ 8 (by kernel_rfl) (by kernel_rfl) (by kernel_rfl) (by kernel_rfl)) ?_
  intro W base args ds gs before hval0 hW hcnd _
  have hval : ∀ (j : Nat) t v, Try.f16.params[j]? = some t → args[j]? = some v → Value.okWide Try.prog W .any base t v := hval0
  have hW' := hW
  obtain ⟨p, q, hA0, hV, rfl, hfz, hnd⟩ := hW
  have hA : DataW.TrodAll enc Try.prog W 0 (fun _ => true) true Try.f16.params.toList args.toList ds p := hA0
  rw [Try.params16] at hA hval
  obtain ⟨v0, vs0, d0, ds0, p0, q0, hargs, rfl, rfl, h0, r0⟩ := trodAll_cons hA
  obtain ⟨v1, vs1, d1, ds1, p1, q1, rfl, rfl, rfl, h1, r1⟩ := trodAll_cons r0
  obtain ⟨v2, vs2, d2, ds2, p2, q2, rfl, rfl, rfl, h2, r2⟩ := trodAll_cons r1
  obtain ⟨v3, vs3, d3, ds3, p3, q3, rfl, rfl, rfl, h3, r3⟩ := trodAll_cons r2
  obtain ⟨rfl, rfl, rfl⟩ := trodAll_nil r3
  obtain rfl : args = #[v0, v1, v2, v3] := by cases args; simp_all
  obtain ⟨rfl, rfl⟩ := trodVars_none hV
  obtain ⟨ns0, rfl, hl0_0, hn0⟩ := open_flat fl63 (hval 0 63 v0 rfl rfl)
  obtain ⟨a0_0, t0_0, rfl, hl0_1⟩ := len_cons hl0_0
  obtain ⟨a0_1, t0_1, rfl, hl0_2⟩ := len_cons hl0_1
  obtain ⟨a0_2, t0_2, rfl, hl0_3⟩ := len_cons hl0_2
  obtain ⟨a0_3, t0_3, rfl, hl0_4⟩ := len_cons hl0_3
  obtain ⟨a0_4, t0_4, rfl, hl0_5⟩ := len_cons hl0_4
  obtain ⟨a0_5, t0_5, rfl, hl0_6⟩ := len_cons hl0_5
  obtain ⟨a0_6, t0_6, rfl, hl0_7⟩ := len_cons hl0_6
  obtain ⟨a0_7, t0_7, rfl, hl0_8⟩ := len_cons hl0_7
  obtain ⟨a0_8, t0_8, rfl, hl0_9⟩ := len_cons hl0_8
  obtain ⟨a0_9, t0_9, rfl, hl0_10⟩ := len_cons hl0_9
  obtain ⟨a0_10, t0_10, rfl, hl0_11⟩ := len_cons hl0_10
  obtain ⟨a0_11, t0_11, rfl, hl0_12⟩ := len_cons hl0_11
  obtain ⟨a0_12, t0_12, rfl, hl0_13⟩ := len_cons hl0_12
  obtain ⟨a0_13, t0_13, rfl, hl0_14⟩ := len_cons hl0_13
  obtain ⟨a0_14, t0_14, rfl, hl0_15⟩ := len_cons hl0_14
  obtain ⟨a0_15, t0_15, rfl, hl0_16⟩ := len_cons hl0_15
  obtain ⟨a0_16, t0_16, rfl, hl0_17⟩ := len_cons hl0_16
  obtain ⟨a0_17, t0_17, rfl, hl0_18⟩ := len_cons hl0_17
  obtain ⟨a0_18, t0_18, rfl, hl0_19⟩ := len_cons hl0_18
  obtain ⟨a0_19, t0_19, rfl, hl0_20⟩ := len_cons hl0_19
  obtain ⟨a0_20, t0_20, rfl, hl0_21⟩ := len_cons hl0_20
  obtain ⟨a0_21, t0_21, rfl, hl0_22⟩ := len_cons hl0_21
  obtain ⟨a0_22, t0_22, rfl, hl0_23⟩ := len_cons hl0_22
  obtain ⟨a0_23, t0_23, rfl, hl0_24⟩ := len_cons hl0_23
  obtain rfl := len_nil hl0_24
  obtain ⟨ns1, rfl, hl1_0, hn1⟩ := open_flat fl63 (hval 1 63 v1 rfl rfl)
  obtain ⟨a1_0, t1_0, rfl, hl1_1⟩ := len_cons hl1_0
  obtain ⟨a1_1, t1_1, rfl, hl1_2⟩ := len_cons hl1_1
  obtain ⟨a1_2, t1_2, rfl, hl1_3⟩ := len_cons hl1_2
  obtain ⟨a1_3, t1_3, rfl, hl1_4⟩ := len_cons hl1_3
  obtain ⟨a1_4, t1_4, rfl, hl1_5⟩ := len_cons hl1_4
  obtain ⟨a1_5, t1_5, rfl, hl1_6⟩ := len_cons hl1_5
  obtain ⟨a1_6, t1_6, rfl, hl1_7⟩ := len_cons hl1_6
  obtain ⟨a1_7, t1_7, rfl, hl1_8⟩ := len_cons hl1_7
  obtain ⟨a1_8, t1_8, rfl, hl1_9⟩ := len_cons hl1_8
  obtain ⟨a1_9, t1_9, rfl, hl1_10⟩ := len_cons hl1_9
  obtain ⟨a1_10, t1_10, rfl, hl1_11⟩ := len_cons hl1_10
  obtain ⟨a1_11, t1_11, rfl, hl1_12⟩ := len_cons hl1_11
  obtain ⟨a1_12, t1_12, rfl, hl1_13⟩ := len_cons hl1_12
  obtain ⟨a1_13, t1_13, rfl, hl1_14⟩ := len_cons hl1_13
  obtain ⟨a1_14, t1_14, rfl, hl1_15⟩ := len_cons hl1_14
  obtain ⟨a1_15, t1_15, rfl, hl1_16⟩ := len_cons hl1_15
  obtain ⟨a1_16, t1_16, rfl, hl1_17⟩ := len_cons hl1_16
  obtain ⟨a1_17, t1_17, rfl, hl1_18⟩ := len_cons hl1_17
  obtain ⟨a1_18, t1_18, rfl, hl1_19⟩ := len_cons hl1_18
  obtain ⟨a1_19, t1_19, rfl, hl1_20⟩ := len_cons hl1_19
  obtain ⟨a1_20, t1_20, rfl, hl1_21⟩ := len_cons hl1_20
  obtain ⟨a1_21, t1_21, rfl, hl1_22⟩ := len_cons hl1_21
  obtain ⟨a1_22, t1_22, rfl, hl1_23⟩ := len_cons hl1_22
  obtain ⟨a1_23, t1_23, rfl, hl1_24⟩ := len_cons hl1_23
  obtain rfl := len_nil hl1_24
  obtain ⟨ns2, rfl, hl2_0, hn2⟩ := open_flat fl34 (hval 2 34 v2 rfl rfl)
  obtain ⟨a2_0, t2_0, rfl, hl2_1⟩ := len_cons hl2_0
  obtain ⟨a2_1, t2_1, rfl, hl2_2⟩ := len_cons hl2_1
  obtain ⟨a2_2, t2_2, rfl, hl2_3⟩ := len_cons hl2_2
  obtain ⟨a2_3, t2_3, rfl, hl2_4⟩ := len_cons hl2_3
  obtain ⟨a2_4, t2_4, rfl, hl2_5⟩ := len_cons hl2_4
  obtain ⟨a2_5, t2_5, rfl, hl2_6⟩ := len_cons hl2_5
  obtain rfl := len_nil hl2_6
  obtain ⟨L3, hI3, hN3⟩ := open_list Try.underlying31 Try.underlying3 (by kernel_rfl) (hval 3 31 v3 rfl rfl) h3
  refine (wPApplies a0_0 a0_1 a0_2 a0_3 a0_4 a0_5 a0_6 a0_7 a0_8 a0_9 a0_10 a0_11 a0_12 a0_13 a0_14 a0_15 a0_16 a0_17 a0_18 a0_19 a0_20 a0_21 a0_22 a0_23 a1_0 a1_1 a1_2 a1_3 a1_4 a1_5 a1_6 a1_7 a1_8 a1_9 a1_10 a1_11 a1_12 a1_13 a1_14 a1_15 a1_16 a1_17 a1_18 a1_19 a1_20 a1_21 a1_22 a1_23 a2_0 a2_1 a2_2 a2_3 a2_4 a2_5 v3 L3 W hI3).mono fun e W' ⟨he, hg⟩ => ?_
  subst he
  exact ⟨_, rfl, law_post hW' rfl laid (by kernel_rfl) rfl rfl rfl rfl Try.underlying4 hg⟩

theorem named : Try.pinned.checked.prog.funcNamed Rows.poseAppliesRow.func = some 16 := by kernel_rfl
theorem facts1 : Try.pinned.checked.prog.inPlace 16 = Rows.poseAppliesRow.inPlace := by kernel_rfl
theorem facts2 : Try.pinned.checked.prog.unfollowed 16 = Rows.poseAppliesRow.unfollowed := by kernel_rfl
theorem facts3 : Try.pinned.checked.prog.recurses 16 = Rows.poseAppliesRow.recurses := by kernel_rfl
theorem facts4 : Try.pinned.checked.prog.varsNamed 16 = Rows.poseAppliesRow.named := by kernel_rfl
theorem closed : joinedFacts Try.pinned.checked.prog 16 Try.f16 Rows.poseAppliesSpec Rows.poseAppliesRow = true := by
  unfold joinedFacts
  rw [facts1, facts2, facts3, facts4]
  kernel_rfl
theorem inst : Func.isInstance Try.pinned.checked.prog Try.f16 Rows.poseAppliesRow.origin Rows.poseAppliesRow.targs := of_decide_eq_true (by kernel_rfl)
theorem wrap : Func.isWrapper Try.pinned.checked.prog Try.f16 Rows.poseAppliesRow.wrapper Rows.poseAppliesRow.mainSum := by
  unfold Func.isWrapper; first | (rw [if_pos (by decide +kernel)]; kernel_rfl) | (rw [if_neg (by decide +kernel)]; exact ⟨rfl, rfl⟩)
theorem proved : Rows.PoseAppliesSaid :=
  OpenClaim.holds_of_wide 16 Try.f16 rfl rfl rfl rfl rfl rfl rfl ⟨rfl, rfl, rfl, rfl, rfl⟩ rfl rfl rfl rfl rfl named Try.func16 closed inst wrap
    (fun os started H enc _ => lifted os started H enc)
#print axioms proved
end Go.Proofs.Ytonampcmhhhffaa.poseApplies

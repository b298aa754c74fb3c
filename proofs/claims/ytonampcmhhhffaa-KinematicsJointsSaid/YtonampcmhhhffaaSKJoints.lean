/- The law of the joints.
No condition. -/
import Derived.Test.YtonampcmhhhffaaRows
import Derived.Test.YtonampcmhhhffaaVLawJ
import Derived.Test.YtonampcmhhhffaaVN3
namespace Go.Proofs.Ytonampcmhhhffaa.kinematicsJoints
open Go.ChangeShapes Go.WideShapes Go.ChangeAt Go.RowKit Go.Sx
theorem own : ownKnob Try.prog.godebug = none := by kernel_rfl
theorem laid : laidOutB Try.prog = true := by kernel_rfl
theorem fl70 : sflatB Try.prog 70 11 = true := by kernel_rfl
theorem fl23 : flatB Try.prog 23 2 = true := by kernel_rfl
set_option maxRecDepth 100000 in
theorem lifted (os : Os) (started : os.Started) (H : Type) (enc : TypeId × Value → H) :
    ReturnsInHanded {} Try.checked os 13 .any (Rows.kinematicsJointsSpec.pre6 enc Try.prog Try.f13 Rows.kinematicsJointsRow.domain false) (Rows.kinematicsJointsSpec.post enc Try.prog Try.f13 false true false false) := by
  refine returnsInHanded_of_change (C := Try.checked) own started (by kernel_rfl) Try.func13
    (ChangeSpec.witness6 (enc := enc) (C := Try.checked) false ⟨#[], #[.agg #[.string ByteArray.empty, .int .i64 0, .int .i64 0, .int .i64 0, .int .i64 0, .int .i64 0, .int .i64 0, .int .i64 0, .int .i64 0, .int .i64 0, .int .i64 0, .int .i64 0], .agg #[.int .i64 0, .int .i64 0], .slice none 0 0, .int .i64 0], []⟩ 8 (by kernel_rfl) (by kernel_rfl) (by kernel_rfl) (by kernel_rfl)) ?_
  intro W base args ds gs before hval0 hW hcnd _
  have hval : ∀ (j : Nat) t v, Try.f13.params[j]? = some t → args[j]? = some v → Value.okWide Try.prog W .any base t v := hval0
  have hW' := hW
  obtain ⟨p, q, hA0, hV, rfl, hfz, hnd⟩ := hW
  have hA : DataW.TrodAll enc Try.prog W 0 (fun _ => true) true Try.f13.params.toList args.toList ds p := hA0
  rw [Try.params13] at hA hval
  obtain ⟨v0, vs0, d0, ds0, p0, q0, hargs, rfl, rfl, h0, r0⟩ := trodAll_cons hA
  obtain ⟨v1, vs1, d1, ds1, p1, q1, rfl, rfl, rfl, h1, r1⟩ := trodAll_cons r0
  obtain ⟨v2, vs2, d2, ds2, p2, q2, rfl, rfl, rfl, h2, r2⟩ := trodAll_cons r1
  obtain ⟨v3, vs3, d3, ds3, p3, q3, rfl, rfl, rfl, h3, r3⟩ := trodAll_cons r2
  obtain ⟨rfl, rfl, rfl⟩ := trodAll_nil r3
  obtain rfl : args = #[v0, v1, v2, v3] := by cases args; simp_all
  obtain ⟨rfl, rfl⟩ := trodVars_none hV
  obtain ⟨a0_s, ns0, rfl, hl0_0, hn0⟩ := open_sflat fl70 (hval 0 70 v0 rfl rfl)
  obtain ⟨a0_0, t0_0, rfl, hl0_1⟩ := len_cons hl0_0
  obtain ⟨a0_1, t0_1, rfl, hl0_2⟩ := len_cons hl0_1
  obtain ⟨a0_2, t0_2, rfl, hl0_3⟩ := len_cons hl0_2
  obtain ⟨a0_3, t0_3, rfl, hl0_4⟩ := len_cons hl0_3
  obtain ⟨a0_4, t0_4, rfl, hl0_5⟩ := len_cons hl0_4
  obtain ⟨a0_5, t0_5, rfl, hl0_6⟩ := len_cons hl0_5
  obtain ⟨a0_6, t0_6, rfl, hl0_7⟩ := len_cons hl0_6
  obtain ⟨a0_7, t0_7, rfl, hl0_8⟩ := len_cons hl0_7
  obtain ⟨a0_8, t0_8, rfl, hl0_9⟩ := len_cons hl0_8
  obtain ⟨a0_9, t0_9, rfl, hl0_10⟩ := len_cons hl0_9
  obtain ⟨a0_10, t0_10, rfl, hl0_11⟩ := len_cons hl0_10
  obtain rfl := len_nil hl0_11
  obtain ⟨ns1, rfl, hl1_0, hn1⟩ := open_flat fl23 (hval 1 23 v1 rfl rfl)
  obtain ⟨a1_0, t1_0, rfl, hl1_1⟩ := len_cons hl1_0
  obtain ⟨a1_1, t1_1, rfl, hl1_2⟩ := len_cons hl1_1
  obtain rfl := len_nil hl1_2
  obtain ⟨L2, hI2, hN2⟩ := open_list Try.underlying31 Try.underlying3 (by kernel_rfl) (hval 2 31 v2 rfl rfl) h2
  obtain ⟨a3, rfl, w3⟩ := open_i64 Try.underlying3 (hval 3 3 v3 rfl rfl)
  refine (wKJoints a1_0 a1_1 v2 L2 a3 a0_s a0_0 a0_1 a0_2 a0_3 a0_4 a0_5 a0_6 a0_7 a0_8 a0_9 a0_10 W hI2).mono fun e W' ⟨he, hg⟩ => ?_
  subst he
  exact ⟨_, rfl, law_post hW' rfl laid (by kernel_rfl) rfl rfl rfl rfl Try.underlying4 hg⟩

theorem named : Try.pinned.checked.prog.funcNamed Rows.kinematicsJointsRow.func = some 13 := by kernel_rfl
theorem facts1 : Try.pinned.checked.prog.inPlace 13 = Rows.kinematicsJointsRow.inPlace := by kernel_rfl
theorem facts2 : Try.pinned.checked.prog.unfollowed 13 = Rows.kinematicsJointsRow.unfollowed := by kernel_rfl
theorem facts3 : Try.pinned.checked.prog.recurses 13 = Rows.kinematicsJointsRow.recurses := by kernel_rfl
theorem facts4 : Try.pinned.checked.prog.varsNamed 13 = Rows.kinematicsJointsRow.named := by kernel_rfl
theorem closed : joinedFacts Try.pinned.checked.prog 13 Try.f13 Rows.kinematicsJointsSpec Rows.kinematicsJointsRow = true := by
  unfold joinedFacts
  rw [facts1, facts2, facts3, facts4]
  kernel_rfl
theorem inst : Func.isInstance Try.pinned.checked.prog Try.f13 Rows.kinematicsJointsRow.origin Rows.kinematicsJointsRow.targs := of_decide_eq_true (by kernel_rfl)
theorem wrap : Func.isWrapper Try.pinned.checked.prog Try.f13 Rows.kinematicsJointsRow.wrapper Rows.kinematicsJointsRow.mainSum := by
  unfold Func.isWrapper; first | (rw [if_pos (by decide +kernel)]; kernel_rfl) | (rw [if_neg (by decide +kernel)]; exact ⟨rfl, rfl⟩)
theorem proved : Rows.KinematicsJointsSaid :=
  OpenClaim.holds_of_wide 13 Try.f13 rfl rfl rfl rfl rfl rfl rfl ⟨rfl, rfl, rfl, rfl, rfl⟩ rfl rfl rfl rfl rfl named Try.func13 closed inst wrap
    (fun os started H enc _ => lifted os started H enc)
#print axioms proved
end Go.Proofs.Ytonampcmhhhffaa.kinematicsJoints

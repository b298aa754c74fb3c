/- PoseShifts holds of the program for every input.
No condition. -/
import Derived.Test.YtonampcmhhhffaaRows
import Derived.Test.YtonampcmhhhffaaLawS
import Derived.Test.YtonampcmhhhffaaQ1
namespace Go.Proofs.Ytonampcmhhhffaa.poseShifts
open Go.ChangeShapes Go.WideShapes Go.ChangeAt Go.RowKit Go.Sx
theorem own : ownKnob Try.prog.godebug = none := by kernel_rfl
theorem laid : laidOutB Try.prog = true := by kernel_rfl
theorem fl38 : flatB Try.prog 38 3 = true := by kernel_rfl
set_option maxRecDepth 100000 in
theorem lifted (os : Os) (started : os.Started) (H : Type) (enc : TypeId × Value → H) :
    ReturnsInHanded {} Try.checked os 12 .any (Rows.poseShiftsSpec.pre6 enc Try.prog Try.f12 Rows.poseShiftsRow.domain false) (Rows.poseShiftsSpec.post enc Try.prog Try.f12 false true false false) := by
  refine returnsInHanded_of_change (C := Try.checked) own started (by kernel_rfl) Try.func12
    (ChangeSpec.witness6 (enc := enc) (C := Try.checked) false ⟨#[], #[.agg #[.int .i64 0, .int .i64 0, .int .i64 0], .agg #[.int .i64 0, .int .i64 0, .int .i64 0], .slice none 0 0], []⟩ 8 (by kernel_rfl) (by kernel_rfl) (by kernel_rfl) (by kernel_rfl)) ?_
  intro W base args ds gs before hval0 hW hcnd _
  have hval : ∀ (j : Nat) t v, Try.f12.params[j]? = some t → args[j]? = some v → Value.okWide Try.prog W .any base t v := hval0
  have hW' := hW
  obtain ⟨p, q, hA0, hV, rfl, hfz, hnd⟩ := hW
  have hA : DataW.TrodAll enc Try.prog W 0 (fun _ => true) true Try.f12.params.toList args.toList ds p := hA0
  rw [Try.params12] at hA hval
  obtain ⟨v0, vs0, d0, ds0, p0, q0, hargs, rfl, rfl, h0, r0⟩ := trodAll_cons hA
  obtain ⟨v1, vs1, d1, ds1, p1, q1, rfl, rfl, rfl, h1, r1⟩ := trodAll_cons r0
  obtain ⟨v2, vs2, d2, ds2, p2, q2, rfl, rfl, rfl, h2, r2⟩ := trodAll_cons r1
  obtain ⟨rfl, rfl, rfl⟩ := trodAll_nil r2
  obtain rfl : args = #[v0, v1, v2] := by cases args; simp_all
  obtain ⟨rfl, rfl⟩ := trodVars_none hV
  obtain ⟨ns0, rfl, hl0_0, hn0⟩ := open_flat fl38 (hval 0 38 v0 rfl rfl)
  obtain ⟨a0_0, t0_0, rfl, hl0_1⟩ := len_cons hl0_0
  obtain ⟨a0_1, t0_1, rfl, hl0_2⟩ := len_cons hl0_1
  obtain ⟨a0_2, t0_2, rfl, hl0_3⟩ := len_cons hl0_2
  obtain rfl := len_nil hl0_3
  obtain ⟨ns1, rfl, hl1_0, hn1⟩ := open_flat fl38 (hval 1 38 v1 rfl rfl)
  obtain ⟨a1_0, t1_0, rfl, hl1_1⟩ := len_cons hl1_0
  obtain ⟨a1_1, t1_1, rfl, hl1_2⟩ := len_cons hl1_1
  obtain ⟨a1_2, t1_2, rfl, hl1_3⟩ := len_cons hl1_2
  obtain rfl := len_nil hl1_3
  obtain ⟨L2, hI2, hN2⟩ := open_list Try.underlying31 Try.underlying3 (by kernel_rfl) (hval 2 31 v2 rfl rfl) h2
  refine (wPShifts a0_0 a0_1 a0_2 a1_0 a1_1 a1_2 v2 L2 W hI2).mono fun e W' ⟨he, hg⟩ => ?_
  subst he
  exact ⟨_, rfl, law_post hW' rfl laid (by kernel_rfl) rfl rfl rfl rfl Try.underlying4 hg⟩

theorem named : Try.pinned.checked.prog.funcNamed Rows.poseShiftsRow.func = some 12 := by kernel_rfl
theorem facts1 : Try.pinned.checked.prog.inPlace 12 = Rows.poseShiftsRow.inPlace := by kernel_rfl
theorem facts2 : Try.pinned.checked.prog.unfollowed 12 = Rows.poseShiftsRow.unfollowed := by kernel_rfl
theorem facts3 : Try.pinned.checked.prog.recurses 12 = Rows.poseShiftsRow.recurses := by kernel_rfl
theorem facts4 : Try.pinned.checked.prog.varsNamed 12 = Rows.poseShiftsRow.named := by kernel_rfl
theorem closed : joinedFacts Try.pinned.checked.prog 12 Try.f12 Rows.poseShiftsSpec Rows.poseShiftsRow = true := by
  unfold joinedFacts
  rw [facts1, facts2, facts3, facts4]
  kernel_rfl
theorem inst : Func.isInstance Try.pinned.checked.prog Try.f12 Rows.poseShiftsRow.origin Rows.poseShiftsRow.targs := of_decide_eq_true (by kernel_rfl)
theorem wrap : Func.isWrapper Try.pinned.checked.prog Try.f12 Rows.poseShiftsRow.wrapper Rows.poseShiftsRow.mainSum := by
  unfold Func.isWrapper; first | (rw [if_pos (by decide +kernel)]; kernel_rfl) | (rw [if_neg (by decide +kernel)]; exact ⟨rfl, rfl⟩)
theorem proved : Rows.PoseShiftsSaid :=
  OpenClaim.holds_of_wide 12 Try.f12 rfl rfl rfl rfl rfl rfl rfl ⟨rfl, rfl, rfl, rfl, rfl⟩ rfl rfl rfl rfl rfl named Try.func12 closed inst wrap
    (fun os started H enc _ => lifted os started H enc)
#print axioms proved
end Go.Proofs.Ytonampcmhhhffaa.poseShifts

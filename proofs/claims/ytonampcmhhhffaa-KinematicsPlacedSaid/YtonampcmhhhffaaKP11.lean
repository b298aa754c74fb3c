/- Within the limits all points of all shapes are placed points.
No condition. -/
import Derived.Test.YtonampcmhhhffaaKP10
import Derived.Test.YtonampcmhhhffaaRows
namespace Go.Proofs.Ytonampcmhhhffaa.kinematicsPlaced
open Go.ChangeShapes Go.WideShapes Go.ChangeAt Go.RowKit Go.Sx
theorem own : ownKnob Try.prog.godebug = none := by kernel_rfl
theorem laid : laidOutB Try.prog = true := by kernel_rfl

set_option maxRecDepth 100000 in
theorem lifted (os : Os) (started : os.Started) (H : Type) (enc : TypeId × Value → H) :
    ReturnsInHanded {} Try.checked os 21 .any (Rows.kinematicsPlacedSpec.pre6 enc Try.prog Try.f21 Rows.kinematicsPlacedRow.domain false) (Rows.kinematicsPlacedSpec.post enc Try.prog Try.f21 false true false false) := by
  refine returnsInHanded_of_change (C := Try.checked) own started (by kernel_rfl) Try.func21
    (ChangeSpec.witness6 (enc := enc) (C := Try.checked) false ⟨#[], #[.slice none 0 0, .slice none 0 0], []⟩ 8 (by kernel_rfl) (by kernel_rfl) (by kernel_rfl) (by kernel_rfl)) ?_
  intro W base args ds gs before hval0 hW hcnd _
  have hval : ∀ (j : Nat) t v, Try.f21.params[j]? = some t → args[j]? = some v → Value.okWide Try.prog W .any base t v := hval0
  have hW' := hW
  obtain ⟨p, q, hA0, hV, rfl, hfz, hnd⟩ := hW
  have hA : DataW.TrodAll enc Try.prog W 0 (fun _ => true) true Try.f21.params.toList args.toList ds p := hA0
  rw [Try.params21] at hA hval
  obtain ⟨v0, vs0, d0, ds0, p0, q0, hargs, rfl, rfl, h0, r0⟩ := trodAll_cons hA
  obtain ⟨v1, vs1, d1, ds1, p1, q1, rfl, rfl, rfl, h1, r1⟩ := trodAll_cons r0
  obtain ⟨rfl, rfl, rfl⟩ := trodAll_nil r1
  obtain rfl : args = #[v0, v1] := by cases args; simp_all
  obtain ⟨rfl, rfl⟩ := trodVars_none hV
  obtain ⟨L0, hI0, hN0⟩ := open_list Try.underlying31 Try.underlying3 (by kernel_rfl) (hval 0 31 v0 rfl rfl) h0
  obtain ⟨L1, hI1, hN1⟩ := open_list Try.underlying31 Try.underlying3 (by kernel_rfl) (hval 1 31 v1 rfl rfl) h1
  refine (wKPlaced v0 L0 v1 L1 W hI0 hI1).mono fun e W' ⟨he, hg⟩ => ?_
  subst he
  exact ⟨_, rfl, law_post hW' rfl laid (by kernel_rfl) rfl rfl rfl rfl Try.underlying4 hg⟩

theorem named : Try.pinned.checked.prog.funcNamed Rows.kinematicsPlacedRow.func = some 21 := by kernel_rfl
theorem facts1 : Try.pinned.checked.prog.inPlace 21 = Rows.kinematicsPlacedRow.inPlace := by kernel_rfl
theorem facts2 : Try.pinned.checked.prog.unfollowed 21 = Rows.kinematicsPlacedRow.unfollowed := by kernel_rfl
theorem facts3 : Try.pinned.checked.prog.recurses 21 = Rows.kinematicsPlacedRow.recurses := by kernel_rfl
theorem facts4 : Try.pinned.checked.prog.varsNamed 21 = Rows.kinematicsPlacedRow.named := by kernel_rfl
theorem closed : joinedFacts Try.pinned.checked.prog 21 Try.f21 Rows.kinematicsPlacedSpec Rows.kinematicsPlacedRow = true := by
  unfold joinedFacts
  rw [facts1, facts2, facts3, facts4]
  kernel_rfl
theorem inst : Func.isInstance Try.pinned.checked.prog Try.f21 Rows.kinematicsPlacedRow.origin Rows.kinematicsPlacedRow.targs := of_decide_eq_true (by kernel_rfl)
theorem wrap : Func.isWrapper Try.pinned.checked.prog Try.f21 Rows.kinematicsPlacedRow.wrapper Rows.kinematicsPlacedRow.mainSum := by
  unfold Func.isWrapper; first | (rw [if_pos (by decide +kernel)]; kernel_rfl) | (rw [if_neg (by decide +kernel)]; exact ⟨rfl, rfl⟩)
theorem proved : Rows.KinematicsPlacedSaid :=
  OpenClaim.holds_of_wide 21 Try.f21 rfl rfl rfl rfl rfl rfl rfl ⟨rfl, rfl, rfl, rfl, rfl⟩ rfl rfl rfl rfl rfl named Try.func21 closed inst wrap
    (fun os started H enc _ => lifted os started H enc)
#print axioms proved
end Go.Proofs.Ytonampcmhhhffaa.kinematicsPlaced

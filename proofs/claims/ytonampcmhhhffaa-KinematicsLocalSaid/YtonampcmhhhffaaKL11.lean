/- The law that a joint's interval has no influence off its subtree.
No condition. -/
import Derived.Test.YtonampcmhhhffaaRows
import Derived.Test.YtonampcmhhhffaaKL10
namespace Go.Proofs.Ytonampcmhhhffaa.kinematicsLocal
open Go.ChangeShapes Go.WideShapes Go.ChangeAt Go.RowKit Go.Sx
theorem own : ownKnob Try.prog.godebug = none := by kernel_rfl
theorem laid : laidOutB Try.prog = true := by kernel_rfl
set_option maxRecDepth 100000 in
theorem lifted (os : Os) (started : os.Started) (H : Type) (enc : TypeId × Value → H) :
    ReturnsInHanded {} Try.checked os 19 .any (Rows.kinematicsLocalSpec.pre6 enc Try.prog Try.f19 Rows.kinematicsLocalRow.domain false) (Rows.kinematicsLocalSpec.post enc Try.prog Try.f19 false true false false) := by
  refine returnsInHanded_of_change (C := Try.checked) own started (by kernel_rfl) Try.func19
    (ChangeSpec.witness6 (enc := enc) (C := Try.checked) false ⟨#[], #[.slice none 0 0, .slice none 0 0, .int .i64 0, .int .i64 0, .int .i64 0], []⟩ 8 (by kernel_rfl) (by kernel_rfl) (by kernel_rfl) (by kernel_rfl)) ?_
  intro W base args ds gs before hval0 hW hcnd _
  have hval : ∀ (j : Nat) t v, Try.f19.params[j]? = some t → args[j]? = some v → Value.okWide Try.prog W .any base t v := hval0
  have hW' := hW
  obtain ⟨p, q, hA0, hV, rfl, hfz, hnd⟩ := hW
  have hA : DataW.TrodAll enc Try.prog W 0 (fun _ => true) true Try.f19.params.toList args.toList ds p := hA0
  rw [Try.params19] at hA hval
  obtain ⟨v0, vs0, d0, ds0, p0, q0, hargs, rfl, rfl, h0, r0⟩ := trodAll_cons hA
  obtain ⟨v1, vs1, d1, ds1, p1, q1, rfl, rfl, rfl, h1, r1⟩ := trodAll_cons r0
  obtain ⟨v2, vs2, d2, ds2, p2, q2, rfl, rfl, rfl, h2, r2⟩ := trodAll_cons r1
  obtain ⟨v3, vs3, d3, ds3, p3, q3, rfl, rfl, rfl, h3, r3⟩ := trodAll_cons r2
  obtain ⟨v4, vs4, d4, ds4, p4, q4, rfl, rfl, rfl, h4, r4⟩ := trodAll_cons r3
  obtain ⟨rfl, rfl, rfl⟩ := trodAll_nil r4
  obtain rfl : args = #[v0, v1, v2, v3, v4] := by cases args; simp_all
  obtain ⟨rfl, rfl⟩ := trodVars_none hV
  obtain ⟨L0, hI0, hN0⟩ := open_list Try.underlying31 Try.underlying3 (by kernel_rfl) (hval 0 31 v0 rfl rfl) h0
  obtain ⟨L1, hI1, hN1⟩ := open_list Try.underlying31 Try.underlying3 (by kernel_rfl) (hval 1 31 v1 rfl rfl) h1
  obtain ⟨a2, rfl, w2⟩ := open_i64 Try.underlying3 (hval 2 3 v2 rfl rfl)
  obtain ⟨a3, rfl, w3⟩ := open_i64 Try.underlying3 (hval 3 3 v3 rfl rfl)
  obtain ⟨a4, rfl, w4⟩ := open_i64 Try.underlying3 (hval 4 3 v4 rfl rfl)
  refine (wKLocal v0 L0 v1 L1 a2 a3 a4 W hI0 hI1).mono fun e W' ⟨he, hg⟩ => ?_
  subst he
  exact ⟨_, rfl, law_post hW' rfl laid (by kernel_rfl) rfl rfl rfl rfl Try.underlying4 hg⟩
theorem named : Try.pinned.checked.prog.funcNamed Rows.kinematicsLocalRow.func = some 19 := by kernel_rfl
theorem facts1 : Try.pinned.checked.prog.inPlace 19 = Rows.kinematicsLocalRow.inPlace := by kernel_rfl
theorem facts2 : Try.pinned.checked.prog.unfollowed 19 = Rows.kinematicsLocalRow.unfollowed := by kernel_rfl
theorem facts3 : Try.pinned.checked.prog.recurses 19 = Rows.kinematicsLocalRow.recurses := by kernel_rfl
theorem facts4 : Try.pinned.checked.prog.varsNamed 19 = Rows.kinematicsLocalRow.named := by kernel_rfl
theorem closed : joinedFacts Try.pinned.checked.prog 19 Try.f19 Rows.kinematicsLocalSpec Rows.kinematicsLocalRow = true := by
  unfold joinedFacts
  rw [facts1, facts2, facts3, facts4]
  kernel_rfl
theorem inst : Func.isInstance Try.pinned.checked.prog Try.f19 Rows.kinematicsLocalRow.origin Rows.kinematicsLocalRow.targs := of_decide_eq_true (by kernel_rfl)
theorem wrap : Func.isWrapper Try.pinned.checked.prog Try.f19 Rows.kinematicsLocalRow.wrapper Rows.kinematicsLocalRow.mainSum := by
  unfold Func.isWrapper; first | (rw [if_pos (by decide +kernel)]; kernel_rfl) | (rw [if_neg (by decide +kernel)]; exact ⟨rfl, rfl⟩)
theorem proved : Rows.KinematicsLocalSaid :=
  OpenClaim.holds_of_wide 19 Try.f19 rfl rfl rfl rfl rfl rfl rfl ⟨rfl, rfl, rfl, rfl, rfl⟩ rfl rfl rfl rfl rfl named Try.func19 closed inst wrap
    (fun os started H enc _ => lifted os started H enc)
#print axioms proved
end Go.Proofs.Ytonampcmhhhffaa.kinematicsLocal

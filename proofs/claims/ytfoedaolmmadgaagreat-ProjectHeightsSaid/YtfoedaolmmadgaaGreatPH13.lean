/- ProjectHeights: for a sliding joint and a bound of its height, one round suffices, and no other joint moves.
No condition. -/
import Derived.Test.YtfoedaolmmadgaaGreatPH12
import Derived.Test.YtfoedaolmmadgaaGreatRows
namespace Go.Proofs.YtfoedaolmmadgaaGreat.projectHeights
open Go.ChangeShapes Go.WideShapes Go.ChangeAt Go.RowKit Go.Sx
theorem own : ownKnob Tryz.prog.godebug = none := by kernel_rfl
theorem laid : laidOutB Tryz.prog = true := by kernel_rfl

set_option maxRecDepth 100000 in
theorem lifted (os : Os) (started : os.Started) (H : Type) (enc : TypeId × Value → H) :
    ReturnsInHanded {} Tryz.checked os 6 .any (Rows.projectHeightsSpec.pre6 enc Tryz.prog Tryz.f6 Rows.projectHeightsRow.domain false) (Rows.projectHeightsSpec.post enc Tryz.prog Tryz.f6 false true false false) := by
  refine returnsInHanded_of_change (C := Tryz.checked) own started (by kernel_rfl) Tryz.func6
    (ChangeSpec.witness6 (enc := enc) (C := Tryz.checked) false ⟨#[], #[.int .i64 0, .int .i64 0, .int .i64 0, .int .i64 0], []⟩ 8 (by kernel_rfl) (by kernel_rfl) (by kernel_rfl) (by kernel_rfl)) ?_
  intro W base args ds gs before hval0 hW hcnd _
  have hval : ∀ (j : Nat) t v, Tryz.f6.params[j]? = some t → args[j]? = some v → Value.okWide Tryz.prog W .any base t v := hval0
  have hW' := hW
  obtain ⟨p, q, hA0, hV, rfl, hfz, hnd⟩ := hW
  have hA : DataW.TrodAll enc Tryz.prog W 0 (fun _ => true) true Tryz.f6.params.toList args.toList ds p := hA0
  rw [Tryz.params6] at hA hval
  obtain ⟨v0, vs0, d0, ds0, p0, q0, hargs, rfl, rfl, h0, r0⟩ := trodAll_cons hA
  obtain ⟨v1, vs1, d1, ds1, p1, q1, rfl, rfl, rfl, h1, r1⟩ := trodAll_cons r0
  obtain ⟨v2, vs2, d2, ds2, p2, q2, rfl, rfl, rfl, h2, r2⟩ := trodAll_cons r1
  obtain ⟨v3, vs3, d3, ds3, p3, q3, rfl, rfl, rfl, h3, r3⟩ := trodAll_cons r2
  obtain ⟨rfl, rfl, rfl⟩ := trodAll_nil r3
  obtain rfl : args = #[v0, v1, v2, v3] := by cases args; simp_all
  obtain ⟨rfl, rfl⟩ := trodVars_none hV
  obtain ⟨a0, rfl, w0⟩ := open_i64 Tryz.underlying3 (hval 0 3 v0 rfl rfl)
  obtain ⟨a1, rfl, w1⟩ := open_i64 Tryz.underlying3 (hval 1 3 v1 rfl rfl)
  obtain ⟨a2, rfl, w2⟩ := open_i64 Tryz.underlying3 (hval 2 3 v2 rfl rfl)
  obtain ⟨a3, rfl, w3⟩ := open_i64 Tryz.underlying3 (hval 3 3 v3 rfl rfl)
  refine (wHeights a0 a1 a2 a3 W ).mono fun e W' ⟨he, hg⟩ => ?_
  subst he
  exact ⟨_, rfl, law_post hW' rfl laid (by kernel_rfl) rfl rfl rfl rfl Tryz.underlying4 hg⟩

theorem named : Tryz.pinned.checked.prog.funcNamed Rows.projectHeightsRow.func = some 6 := by kernel_rfl
theorem facts1 : Tryz.pinned.checked.prog.inPlace 6 = Rows.projectHeightsRow.inPlace := by kernel_rfl
theorem facts2 : Tryz.pinned.checked.prog.unfollowed 6 = Rows.projectHeightsRow.unfollowed := by kernel_rfl
theorem facts3 : Tryz.pinned.checked.prog.recurses 6 = Rows.projectHeightsRow.recurses := by kernel_rfl
theorem facts4 : Tryz.pinned.checked.prog.varsNamed 6 = Rows.projectHeightsRow.named := by kernel_rfl
theorem closed : joinedFacts Tryz.pinned.checked.prog 6 Tryz.f6 Rows.projectHeightsSpec Rows.projectHeightsRow = true := by
  unfold joinedFacts
  rw [facts1, facts2, facts3, facts4]
  kernel_rfl
theorem inst : Func.isInstance Tryz.pinned.checked.prog Tryz.f6 Rows.projectHeightsRow.origin Rows.projectHeightsRow.targs := of_decide_eq_true (by kernel_rfl)
theorem wrap : Func.isWrapper Tryz.pinned.checked.prog Tryz.f6 Rows.projectHeightsRow.wrapper Rows.projectHeightsRow.mainSum := by
  unfold Func.isWrapper; first | (rw [if_pos (by decide +kernel)]; kernel_rfl) | (rw [if_neg (by decide +kernel)]; exact ⟨rfl, rfl⟩)
theorem proved : Rows.ProjectHeightsSaid :=
  OpenClaim.holds_of_wide 6 Tryz.f6 rfl rfl rfl rfl rfl rfl rfl ⟨rfl, rfl, rfl, rfl, rfl⟩ rfl rfl rfl rfl rfl named Tryz.func6 closed inst wrap
    (fun os started H enc _ => lifted os started H enc)
#print axioms proved
end Go.Proofs.YtfoedaolmmadgaaGreat.projectHeights

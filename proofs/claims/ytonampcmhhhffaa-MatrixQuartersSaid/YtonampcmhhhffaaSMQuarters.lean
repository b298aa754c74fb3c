/- MatrixQuarters: the law's function returns true for every input, and each argument reads as before.
No condition. -/
import Derived.Test.YtonampcmhhhffaaRows
import Derived.Test.YtonampcmhhhffaaLaw
import Derived.Test.YtonampcmhhhffaaL5
namespace Go.Proofs.Ytonampcmhhhffaa.matrixQuarters
open Go.ChangeShapes Go.WideShapes Go.ChangeAt Go.RowKit Go.Sx
theorem own : ownKnob Try.prog.godebug = none := by kernel_rfl
theorem laid : laidOutB Try.prog = true := by kernel_rfl
theorem fl38 : flatB Try.prog 38 3 = true := by kernel_rfl
set_option maxRecDepth 100000 in
theorem lifted (os : Os) (started : os.Started) (H : Type) (enc : TypeId × Value → H) :
    ReturnsInHanded {} Try.checked os 5 .any (Rows.matrixQuartersSpec.pre6 enc Try.prog Try.f5 Rows.matrixQuartersRow.domain false) (Rows.matrixQuartersSpec.post enc Try.prog Try.f5 false true false false) := by
  refine returnsInHanded_of_change (C := Try.checked) own started (by kernel_rfl) Try.func5
    (ChangeSpec.witness6 (enc := enc) (C := Try.checked) false ⟨#[], #[.int .i64 0, .agg #[.int .i64 0, .int .i64 0, .int .i64 0]], []⟩ 8 (by kernel_rfl) (by kernel_rfl) (by kernel_rfl) (by kernel_rfl)) ?_
  intro W base args ds gs before hval0 hW hcnd _
  have hval : ∀ (j : Nat) t v, Try.f5.params[j]? = some t → args[j]? = some v → Value.okWide Try.prog W .any base t v := hval0
  have hW' := hW
  obtain ⟨p, q, hA0, hV, rfl, hfz, hnd⟩ := hW
  have hA : DataW.TrodAll enc Try.prog W 0 (fun _ => true) true Try.f5.params.toList args.toList ds p := hA0
  rw [Try.params5] at hA hval
  obtain ⟨v0, vs0, d0, ds0, p0, q0, hargs, rfl, rfl, h0, r0⟩ := trodAll_cons hA
  obtain ⟨v1, vs1, d1, ds1, p1, q1, rfl, rfl, rfl, h1, r1⟩ := trodAll_cons r0
  obtain ⟨rfl, rfl, rfl⟩ := trodAll_nil r1
  obtain rfl : args = #[v0, v1] := by cases args; simp_all
  obtain ⟨rfl, rfl⟩ := trodVars_none hV
  obtain ⟨a0, rfl, w0⟩ := open_i64 Try.underlying3 (hval 0 3 v0 rfl rfl)
  obtain ⟨ns1, rfl, hl1_0, hn1⟩ := open_flat fl38 (hval 1 38 v1 rfl rfl)
  obtain ⟨a1_0, t1_0, rfl, hl1_1⟩ := len_cons hl1_0
  obtain ⟨a1_1, t1_1, rfl, hl1_2⟩ := len_cons hl1_1
  obtain ⟨a1_2, t1_2, rfl, hl1_3⟩ := len_cons hl1_2
  obtain rfl := len_nil hl1_3
  refine (wQuarters a0 a1_0 a1_1 a1_2 W).mono fun e W' ⟨he, hg⟩ => ?_
  subst he
  exact ⟨_, rfl, law_post hW' rfl laid (by kernel_rfl) rfl rfl rfl rfl Try.underlying4 hg⟩

theorem named : Try.pinned.checked.prog.funcNamed Rows.matrixQuartersRow.func = some 5 := by kernel_rfl
theorem facts1 : Try.pinned.checked.prog.inPlace 5 = Rows.matrixQuartersRow.inPlace := by kernel_rfl
theorem facts2 : Try.pinned.checked.prog.unfollowed 5 = Rows.matrixQuartersRow.unfollowed := by kernel_rfl
theorem facts3 : Try.pinned.checked.prog.recurses 5 = Rows.matrixQuartersRow.recurses := by kernel_rfl
theorem facts4 : Try.pinned.checked.prog.varsNamed 5 = Rows.matrixQuartersRow.named := by kernel_rfl
theorem closed : joinedFacts Try.pinned.checked.prog 5 Try.f5 Rows.matrixQuartersSpec Rows.matrixQuartersRow = true := by
  unfold joinedFacts
  rw [facts1, facts2, facts3, facts4]
  kernel_rfl
theorem inst : Func.isInstance Try.pinned.checked.prog Try.f5 Rows.matrixQuartersRow.origin Rows.matrixQuartersRow.targs := of_decide_eq_true (by kernel_rfl)
theorem wrap : Func.isWrapper Try.pinned.checked.prog Try.f5 Rows.matrixQuartersRow.wrapper Rows.matrixQuartersRow.mainSum := by
  unfold Func.isWrapper; first | (rw [if_pos (by decide +kernel)]; kernel_rfl) | (rw [if_neg (by decide +kernel)]; exact ⟨rfl, rfl⟩)
theorem proved : Rows.MatrixQuartersSaid :=
  OpenClaim.holds_of_wide 5 Try.f5 rfl rfl rfl rfl rfl rfl rfl ⟨rfl, rfl, rfl, rfl, rfl⟩ rfl rfl rfl rfl rfl named Try.func5 closed inst wrap
    (fun os started H enc _ => lifted os started H enc)
#print axioms proved
end Go.Proofs.Ytonampcmhhhffaa.matrixQuarters

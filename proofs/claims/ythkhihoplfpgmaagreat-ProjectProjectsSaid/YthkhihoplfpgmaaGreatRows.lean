/-
  No cell of these rows narrows 'for every input' (looked for: loops, veiled, ifaces, maps, wideKeys, modest, calm, conditions, laid).
  DERIVED. THE GIVEN ROWS OF THIS SEAT. 4 by the template 'for every input the law returns true; each argument reads behind the call as it read before'; 0 by the template 'total and deterministic' (their statements: YthkhihoplfpgmaaGreatTotals.lean).
  GIVEN WITH THE SEED: the statements are not yours to turn. If you find one false, say at which input.
  Laid BY PROGRAM, IN A SANDBOX (cutbox-rows.mjs): the forced cells as the released guide's own fill.sh prints them over the translation 3aceb6795f263af5… (all of the seat's roots in one cut). By AI agents, Wed Nov 11 2026. No macro, syntax, notation, axiom, sorry.
-/
import Derived.Test.YthkhihoplfpgmaaGreatChecked
import GoSem.Claim
import GoSem.ClaimJoined
import GoSem.ClaimMapViews
import Derived.JoinedTies
import Derived.KernelRfl
namespace Go.Proofs.YthkhihoplfpgmaaGreat
/- THE CELL 'sum', in the pinned program and in every row, IS THE sha256 OF THE DUMP (.gsa) THAT YthkhihoplfpgmaaGreatProg.lean LOADS. Nothing in Lean hashes anything: it is a label: what it is worth is what the hold of that sum in a sandbox is worth. -/
noncomputable def Tryz.pinned : Pinned := { name := "ythkhihoplfpgmaagreat", sum := "3aceb6795f263af5df9ca0aec183ac123ad601f1f40564341354e4850c475742", checked := Tryz.checked }
namespace Rows
def none {H : Type} : Left H := { results := [], args := [] }

/-- 'armplanlaw33.ProjectSteps': WHATEVER THE INPUT: true; the input reads as it did. -/
def projectStepsSpec : ChangeSpec := { name := "projectSteps", fn := fun _ => fun
  | [d1, d2, d3, d4, d5, d6] => { results := [.lit (.bool true)], args := [d1, d2, d3, d4, d5, d6] }
  | _ => none }
def projectStepsRow : OpenClaim := { program := "ythkhihoplfpgmaagreat", sum := "3aceb6795f263af5df9ca0aec183ac123ad601f1f40564341354e4850c475742", func := "armplan/armplanlaw33.ProjectSteps", spec := "projectSteps", unfollowed := true, recurses := true, apart := false }
def ProjectStepsSaid : Prop := projectStepsRow.holds Tryz.pinned (OpenSpec.ofChange projectStepsSpec)

/-- ITS FALSE NEIGHBOUR: 'it returns false'. Refute it at one input. -/
def projectStepsWrong : ChangeSpec := { name := "projectSteps", fn := fun _ => fun
  | [d1, d2, d3, d4, d5, d6] => { results := [.lit (.bool false)], args := [d1, d2, d3, d4, d5, d6] }
  | _ => none }
def ProjectStepsWrongFalsely : Prop := projectStepsRow.holds Tryz.pinned (OpenSpec.ofChange projectStepsWrong)

/-- 'armplanlaw33.ProjectProjects': WHATEVER THE INPUT: true; the input reads as it did. -/
def projectProjectsSpec : ChangeSpec := { name := "projectProjects", fn := fun _ => fun
  | [d1, d2, d3, d4, d5, d6, d7, d8] => { results := [.lit (.bool true)], args := [d1, d2, d3, d4, d5, d6, d7, d8] }
  | _ => none }
def projectProjectsRow : OpenClaim := { program := "ythkhihoplfpgmaagreat", sum := "3aceb6795f263af5df9ca0aec183ac123ad601f1f40564341354e4850c475742", func := "armplan/armplanlaw33.ProjectProjects", spec := "projectProjects", unfollowed := true, recurses := true, apart := false }
def ProjectProjectsSaid : Prop := projectProjectsRow.holds Tryz.pinned (OpenSpec.ofChange projectProjectsSpec)

/-- ITS FALSE NEIGHBOUR: 'it returns false'. Refute it at one input. -/
def projectProjectsWrong : ChangeSpec := { name := "projectProjects", fn := fun _ => fun
  | [d1, d2, d3, d4, d5, d6, d7, d8] => { results := [.lit (.bool false)], args := [d1, d2, d3, d4, d5, d6, d7, d8] }
  | _ => none }
def ProjectProjectsWrongFalsely : Prop := projectProjectsRow.holds Tryz.pinned (OpenSpec.ofChange projectProjectsWrong)

/-- 'armplanlaw33.ProjectHolds': WHATEVER THE INPUT: true; the input reads as it did. -/
def projectHoldsSpec : ChangeSpec := { name := "projectHolds", fn := fun _ => fun
  | [d1, d2, d3, d4, d5] => { results := [.lit (.bool true)], args := [d1, d2, d3, d4, d5] }
  | _ => none }
def projectHoldsRow : OpenClaim := { program := "ythkhihoplfpgmaagreat", sum := "3aceb6795f263af5df9ca0aec183ac123ad601f1f40564341354e4850c475742", func := "armplan/armplanlaw33.ProjectHolds", spec := "projectHolds", unfollowed := true, recurses := true, apart := false }
def ProjectHoldsSaid : Prop := projectHoldsRow.holds Tryz.pinned (OpenSpec.ofChange projectHoldsSpec)

/-- ITS FALSE NEIGHBOUR: 'it returns false'. Refute it at one input. -/
def projectHoldsWrong : ChangeSpec := { name := "projectHolds", fn := fun _ => fun
  | [d1, d2, d3, d4, d5] => { results := [.lit (.bool false)], args := [d1, d2, d3, d4, d5] }
  | _ => none }
def ProjectHoldsWrongFalsely : Prop := projectHoldsRow.holds Tryz.pinned (OpenSpec.ofChange projectHoldsWrong)

/-- 'armplanlaw33.ProjectNears': WHATEVER THE INPUT: true; the input reads as it did. -/
def projectNearsSpec : ChangeSpec := { name := "projectNears", fn := fun _ => fun
  | [d1, d2, d3, d4, d5, d6, d7] => { results := [.lit (.bool true)], args := [d1, d2, d3, d4, d5, d6, d7] }
  | _ => none }
def projectNearsRow : OpenClaim := { program := "ythkhihoplfpgmaagreat", sum := "3aceb6795f263af5df9ca0aec183ac123ad601f1f40564341354e4850c475742", func := "armplan/armplanlaw33.ProjectNears", spec := "projectNears", unfollowed := true, recurses := true, apart := false }
def ProjectNearsSaid : Prop := projectNearsRow.holds Tryz.pinned (OpenSpec.ofChange projectNearsSpec)

/-- ITS FALSE NEIGHBOUR: 'it returns false'. Refute it at one input. -/
def projectNearsWrong : ChangeSpec := { name := "projectNears", fn := fun _ => fun
  | [d1, d2, d3, d4, d5, d6, d7] => { results := [.lit (.bool false)], args := [d1, d2, d3, d4, d5, d6, d7] }
  | _ => none }
def ProjectNearsWrongFalsely : Prop := projectNearsRow.holds Tryz.pinned (OpenSpec.ofChange projectNearsWrong)

/- THE SECOND FORM. 'bulk': how many values and letters a reading holds, each counted each time it is reached (what is shared counts as often as it is met; a slice's spare places count too). A statement '..UptoSaid' is the law's where the arguments, and the package variables that the reading takes, are together of bulk at most 1048576: NARROWER than '..Said'. Prove '..Said' where nothing that the law and all that it calls make is longer than what came in: it says more and counts as full. Else prove '..UptoSaid'. A law counts once. -/
mutual
def uptoBulk {H : Type} : DataW H → Nat
  | .lit (.string bytes) => bytes.length + 1
  | .lit _ => 1
  | .nil => 1
  | .ptr d => uptoBulk d + 1
  | .slice elems spare => uptoBulkAll elems + uptoBulkAll spare + 1
  | .agg parts => uptoBulkAll parts + 1
  | .iface _ d => uptoBulk d + 1
  | .map entries => uptoBulkEntries entries + 1
  | .held _ => 1
def uptoBulkAll {H : Type} : List (DataW H) → Nat
  | [] => 0
  | d :: r => uptoBulk d + uptoBulkAll r
def uptoBulkEntries {H : Type} : List (Lit × DataW H) → Nat
  | [] => 0
  | x :: r => uptoBulkEntry x + uptoBulkEntries r
def uptoBulkEntry {H : Type} : Lit × DataW H → Nat
  | (.string bytes, d) => bytes.length + uptoBulk d + 1
  | (_, d) => uptoBulk d + 1
 end
def uptoSmall : (H : Type) → List (DataW H) → Bool := fun _ ds => decide (uptoBulkAll ds ≤ 1048576)
def OpenSpec.upto (s : _root_.Go.ChangeSpec) : _root_.Go.OpenSpec := { _root_.Go.OpenSpec.ofChange s with cond := some uptoSmall }

/-- 'armplanlaw33.ProjectSteps', WHERE WHAT IT READS IS OF BULK AT MOST 1048576: true; the input reads as it did. -/
def projectStepsUptoRow : OpenClaim := { program := "ythkhihoplfpgmaagreat", sum := "3aceb6795f263af5df9ca0aec183ac123ad601f1f40564341354e4850c475742", func := "armplan/armplanlaw33.ProjectSteps", spec := "projectSteps", unfollowed := true, recurses := true, apart := false, narrowed := true }
def ProjectStepsUptoSaid : Prop := projectStepsUptoRow.holds Tryz.pinned (OpenSpec.upto projectStepsSpec)

/-- 'armplanlaw33.ProjectProjects', WHERE WHAT IT READS IS OF BULK AT MOST 1048576: true; the input reads as it did. -/
def projectProjectsUptoRow : OpenClaim := { program := "ythkhihoplfpgmaagreat", sum := "3aceb6795f263af5df9ca0aec183ac123ad601f1f40564341354e4850c475742", func := "armplan/armplanlaw33.ProjectProjects", spec := "projectProjects", unfollowed := true, recurses := true, apart := false, narrowed := true }
def ProjectProjectsUptoSaid : Prop := projectProjectsUptoRow.holds Tryz.pinned (OpenSpec.upto projectProjectsSpec)

/-- 'armplanlaw33.ProjectHolds', WHERE WHAT IT READS IS OF BULK AT MOST 1048576: true; the input reads as it did. -/
def projectHoldsUptoRow : OpenClaim := { program := "ythkhihoplfpgmaagreat", sum := "3aceb6795f263af5df9ca0aec183ac123ad601f1f40564341354e4850c475742", func := "armplan/armplanlaw33.ProjectHolds", spec := "projectHolds", unfollowed := true, recurses := true, apart := false, narrowed := true }
def ProjectHoldsUptoSaid : Prop := projectHoldsUptoRow.holds Tryz.pinned (OpenSpec.upto projectHoldsSpec)

/-- 'armplanlaw33.ProjectNears', WHERE WHAT IT READS IS OF BULK AT MOST 1048576: true; the input reads as it did. -/
def projectNearsUptoRow : OpenClaim := { program := "ythkhihoplfpgmaagreat", sum := "3aceb6795f263af5df9ca0aec183ac123ad601f1f40564341354e4850c475742", func := "armplan/armplanlaw33.ProjectNears", spec := "projectNears", unfollowed := true, recurses := true, apart := false, narrowed := true }
def ProjectNearsUptoSaid : Prop := projectNearsUptoRow.holds Tryz.pinned (OpenSpec.upto projectNearsSpec)

end Rows
end Go.Proofs.YthkhihoplfpgmaaGreat

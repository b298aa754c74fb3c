/-
  No cell of these rows narrows 'for every input' (looked for: loops, veiled, ifaces, maps, wideKeys, modest, calm, conditions, laid).
  DERIVED. THE GIVEN ROWS OF THIS SEAT. 7 by the template 'for every input the law returns true; each argument reads behind the call as it read before'; 0 by the template 'total and deterministic' (their statements: YtnlnbnjnapofmaaGreatTotals.lean).
  GIVEN WITH THE SEED: the statements are not yours to turn. If you find one false, say at which input.
  Laid BY PROGRAM, IN A SANDBOX (cutbox-rows.mjs): the forced cells as the released guide's own fill.sh prints them over the translation bef85868be642e78… (all of the seat's roots in one cut). By AI agents, Wed Nov 11 2026. No macro, syntax, notation, axiom, sorry.
-/
import Derived.Test.YtnlnbnjnapofmaaGreatChecked
import GoSem.Claim
import GoSem.ClaimJoined
import GoSem.ClaimMapViews
import Derived.JoinedTies
import Derived.KernelRfl
namespace Go.Proofs.YtnlnbnjnapofmaaGreat
/- THE CELL 'sum', in the pinned program and in every row, IS THE sha256 OF THE DUMP (.gsa) THAT YtnlnbnjnapofmaaGreatProg.lean LOADS. Nothing in Lean hashes anything: it is a label: what it is worth is what the hold of that sum in a sandbox is worth. -/
noncomputable def Tryz.pinned : Pinned := { name := "ytnlnbnjnapofmaagreat", sum := "bef85868be642e786bdeb3879503c1fde5b93fc0e302ac4d188b4019a300b85c", checked := Tryz.checked }
namespace Rows
def none {H : Type} : Left H := { results := [], args := [] }

/-- 'armplanlaw32.ManifoldScales': WHATEVER THE INPUT: true; the input reads as it did. -/
def manifoldScalesSpec : ChangeSpec := { name := "manifoldScales", fn := fun _ => fun
  | [d1, d2, d3] => { results := [.lit (.bool true)], args := [d1, d2, d3] }
  | _ => none }
def manifoldScalesRow : OpenClaim := { program := "ytnlnbnjnapofmaagreat", sum := "bef85868be642e786bdeb3879503c1fde5b93fc0e302ac4d188b4019a300b85c", func := "armplan/armplanlaw32.ManifoldScales", spec := "manifoldScales", unfollowed := true, recurses := true, apart := false }
def ManifoldScalesSaid : Prop := manifoldScalesRow.holds Tryz.pinned (OpenSpec.ofChange manifoldScalesSpec)

/-- ITS FALSE NEIGHBOUR: 'it returns false'. Refute it at one input. -/
def manifoldScalesWrong : ChangeSpec := { name := "manifoldScales", fn := fun _ => fun
  | [d1, d2, d3] => { results := [.lit (.bool false)], args := [d1, d2, d3] }
  | _ => none }
def ManifoldScalesWrongFalsely : Prop := manifoldScalesRow.holds Tryz.pinned (OpenSpec.ofChange manifoldScalesWrong)

/-- 'armplanlaw32.ManifoldMonotone': WHATEVER THE INPUT: true; the input reads as it did. -/
def manifoldMonotoneSpec : ChangeSpec := { name := "manifoldMonotone", fn := fun _ => fun
  | [d1, d2, d3, d4, d5] => { results := [.lit (.bool true)], args := [d1, d2, d3, d4, d5] }
  | _ => none }
def manifoldMonotoneRow : OpenClaim := { program := "ytnlnbnjnapofmaagreat", sum := "bef85868be642e786bdeb3879503c1fde5b93fc0e302ac4d188b4019a300b85c", func := "armplan/armplanlaw32.ManifoldMonotone", spec := "manifoldMonotone", unfollowed := true, recurses := true, apart := false }
def ManifoldMonotoneSaid : Prop := manifoldMonotoneRow.holds Tryz.pinned (OpenSpec.ofChange manifoldMonotoneSpec)

/-- ITS FALSE NEIGHBOUR: 'it returns false'. Refute it at one input. -/
def manifoldMonotoneWrong : ChangeSpec := { name := "manifoldMonotone", fn := fun _ => fun
  | [d1, d2, d3, d4, d5] => { results := [.lit (.bool false)], args := [d1, d2, d3, d4, d5] }
  | _ => none }
def ManifoldMonotoneWrongFalsely : Prop := manifoldMonotoneRow.holds Tryz.pinned (OpenSpec.ofChange manifoldMonotoneWrong)

/-- 'armplanlaw33.ProjectHolds': WHATEVER THE INPUT: true; the input reads as it did. -/
def projectHoldsSpec : ChangeSpec := { name := "projectHolds", fn := fun _ => fun
  | [d1, d2, d3, d4, d5] => { results := [.lit (.bool true)], args := [d1, d2, d3, d4, d5] }
  | _ => none }
def projectHoldsRow : OpenClaim := { program := "ytnlnbnjnapofmaagreat", sum := "bef85868be642e786bdeb3879503c1fde5b93fc0e302ac4d188b4019a300b85c", func := "armplan/armplanlaw33.ProjectHolds", spec := "projectHolds", unfollowed := true, recurses := true, apart := false }
def ProjectHoldsSaid : Prop := projectHoldsRow.holds Tryz.pinned (OpenSpec.ofChange projectHoldsSpec)

/-- ITS FALSE NEIGHBOUR: 'it returns false'. Refute it at one input. -/
def projectHoldsWrong : ChangeSpec := { name := "projectHolds", fn := fun _ => fun
  | [d1, d2, d3, d4, d5] => { results := [.lit (.bool false)], args := [d1, d2, d3, d4, d5] }
  | _ => none }
def ProjectHoldsWrongFalsely : Prop := projectHoldsRow.holds Tryz.pinned (OpenSpec.ofChange projectHoldsWrong)

/-- 'armplanlaw33.ProjectHeights': WHATEVER THE INPUT: true; the input reads as it did. -/
def projectHeightsSpec : ChangeSpec := { name := "projectHeights", fn := fun _ => fun
  | [d1, d2, d3, d4] => { results := [.lit (.bool true)], args := [d1, d2, d3, d4] }
  | _ => none }
def projectHeightsRow : OpenClaim := { program := "ytnlnbnjnapofmaagreat", sum := "bef85868be642e786bdeb3879503c1fde5b93fc0e302ac4d188b4019a300b85c", func := "armplan/armplanlaw33.ProjectHeights", spec := "projectHeights", unfollowed := true, recurses := true, apart := false }
def ProjectHeightsSaid : Prop := projectHeightsRow.holds Tryz.pinned (OpenSpec.ofChange projectHeightsSpec)

/-- ITS FALSE NEIGHBOUR: 'it returns false'. Refute it at one input. -/
def projectHeightsWrong : ChangeSpec := { name := "projectHeights", fn := fun _ => fun
  | [d1, d2, d3, d4] => { results := [.lit (.bool false)], args := [d1, d2, d3, d4] }
  | _ => none }
def ProjectHeightsWrongFalsely : Prop := projectHeightsRow.holds Tryz.pinned (OpenSpec.ofChange projectHeightsWrong)

/-- 'armplanlaw32.ManifoldInstants': WHATEVER THE INPUT: true; the input reads as it did. -/
def manifoldInstantsSpec : ChangeSpec := { name := "manifoldInstants", fn := fun _ => fun
  | [d1, d2, d3, d4, d5, d6, d7] => { results := [.lit (.bool true)], args := [d1, d2, d3, d4, d5, d6, d7] }
  | _ => none }
def manifoldInstantsRow : OpenClaim := { program := "ytnlnbnjnapofmaagreat", sum := "bef85868be642e786bdeb3879503c1fde5b93fc0e302ac4d188b4019a300b85c", func := "armplan/armplanlaw32.ManifoldInstants", spec := "manifoldInstants", unfollowed := true, recurses := true, apart := false }
def ManifoldInstantsSaid : Prop := manifoldInstantsRow.holds Tryz.pinned (OpenSpec.ofChange manifoldInstantsSpec)

/-- ITS FALSE NEIGHBOUR: 'it returns false'. Refute it at one input. -/
def manifoldInstantsWrong : ChangeSpec := { name := "manifoldInstants", fn := fun _ => fun
  | [d1, d2, d3, d4, d5, d6, d7] => { results := [.lit (.bool false)], args := [d1, d2, d3, d4, d5, d6, d7] }
  | _ => none }
def ManifoldInstantsWrongFalsely : Prop := manifoldInstantsRow.holds Tryz.pinned (OpenSpec.ofChange manifoldInstantsWrong)

/-- 'armplanlaw33.ProjectNears': WHATEVER THE INPUT: true; the input reads as it did. -/
def projectNearsSpec : ChangeSpec := { name := "projectNears", fn := fun _ => fun
  | [d1, d2, d3, d4, d5, d6, d7] => { results := [.lit (.bool true)], args := [d1, d2, d3, d4, d5, d6, d7] }
  | _ => none }
def projectNearsRow : OpenClaim := { program := "ytnlnbnjnapofmaagreat", sum := "bef85868be642e786bdeb3879503c1fde5b93fc0e302ac4d188b4019a300b85c", func := "armplan/armplanlaw33.ProjectNears", spec := "projectNears", unfollowed := true, recurses := true, apart := false }
def ProjectNearsSaid : Prop := projectNearsRow.holds Tryz.pinned (OpenSpec.ofChange projectNearsSpec)

/-- ITS FALSE NEIGHBOUR: 'it returns false'. Refute it at one input. -/
def projectNearsWrong : ChangeSpec := { name := "projectNears", fn := fun _ => fun
  | [d1, d2, d3, d4, d5, d6, d7] => { results := [.lit (.bool false)], args := [d1, d2, d3, d4, d5, d6, d7] }
  | _ => none }
def ProjectNearsWrongFalsely : Prop := projectNearsRow.holds Tryz.pinned (OpenSpec.ofChange projectNearsWrong)

/-- 'armplanlaw33.ProjectStraight': WHATEVER THE INPUT: true; the input reads as it did. -/
def projectStraightSpec : ChangeSpec := { name := "projectStraight", fn := fun _ => fun
  | [d1, d2, d3, d4] => { results := [.lit (.bool true)], args := [d1, d2, d3, d4] }
  | _ => none }
def projectStraightRow : OpenClaim := { program := "ytnlnbnjnapofmaagreat", sum := "bef85868be642e786bdeb3879503c1fde5b93fc0e302ac4d188b4019a300b85c", func := "armplan/armplanlaw33.ProjectStraight", spec := "projectStraight", unfollowed := true, recurses := true, apart := false }
def ProjectStraightSaid : Prop := projectStraightRow.holds Tryz.pinned (OpenSpec.ofChange projectStraightSpec)

/-- ITS FALSE NEIGHBOUR: 'it returns false'. Refute it at one input. -/
def projectStraightWrong : ChangeSpec := { name := "projectStraight", fn := fun _ => fun
  | [d1, d2, d3, d4] => { results := [.lit (.bool false)], args := [d1, d2, d3, d4] }
  | _ => none }
def ProjectStraightWrongFalsely : Prop := projectStraightRow.holds Tryz.pinned (OpenSpec.ofChange projectStraightWrong)

/- THE SECOND FORM. 'bulk': how many values and letters a reading holds, each counted each time it is reached (what is shared counts as often as it is met; a slice's spare places count too). A statement '..UptoSaid' is the law's where the arguments, and the package variables that the reading takes, are together of bulk at most 1048576: NARROWER than '..Said'. Prove '..Said' where nothing that the law and all that it calls make is longer than what came in: it says more and counts as full. Else prove '..UptoSaid'. A law counts once. -/
mutual
def uptoBulk {H : Type} : DataW H → Nat
  | .lit (.string bytes) => bytes.length + 1
  | .lit _ => 1
  | .nil => 1
  | .ptr d => uptoBulk d + 1
  | .slice elems spare => uptoBulkAll elems + uptoBulkAll spare + 1
  | .agg parts => uptoBulkAll parts + 1
  | .iface _ d => uptoBulk d + 1
  | .map entries => uptoBulkEntries entries + 1
  | .held _ => 1
def uptoBulkAll {H : Type} : List (DataW H) → Nat
  | [] => 0
  | d :: r => uptoBulk d + uptoBulkAll r
def uptoBulkEntries {H : Type} : List (Lit × DataW H) → Nat
  | [] => 0
  | x :: r => uptoBulkEntry x + uptoBulkEntries r
def uptoBulkEntry {H : Type} : Lit × DataW H → Nat
  | (.string bytes, d) => bytes.length + uptoBulk d + 1
  | (_, d) => uptoBulk d + 1
 end
def uptoSmall : (H : Type) → List (DataW H) → Bool := fun _ ds => decide (uptoBulkAll ds ≤ 1048576)
def OpenSpec.upto (s : _root_.Go.ChangeSpec) : _root_.Go.OpenSpec := { _root_.Go.OpenSpec.ofChange s with cond := some uptoSmall }

/-- 'armplanlaw32.ManifoldScales', WHERE WHAT IT READS IS OF BULK AT MOST 1048576: true; the input reads as it did. -/
def manifoldScalesUptoRow : OpenClaim := { program := "ytnlnbnjnapofmaagreat", sum := "bef85868be642e786bdeb3879503c1fde5b93fc0e302ac4d188b4019a300b85c", func := "armplan/armplanlaw32.ManifoldScales", spec := "manifoldScales", unfollowed := true, recurses := true, apart := false, narrowed := true }
def ManifoldScalesUptoSaid : Prop := manifoldScalesUptoRow.holds Tryz.pinned (OpenSpec.upto manifoldScalesSpec)

/-- 'armplanlaw32.ManifoldMonotone', WHERE WHAT IT READS IS OF BULK AT MOST 1048576: true; the input reads as it did. -/
def manifoldMonotoneUptoRow : OpenClaim := { program := "ytnlnbnjnapofmaagreat", sum := "bef85868be642e786bdeb3879503c1fde5b93fc0e302ac4d188b4019a300b85c", func := "armplan/armplanlaw32.ManifoldMonotone", spec := "manifoldMonotone", unfollowed := true, recurses := true, apart := false, narrowed := true }
def ManifoldMonotoneUptoSaid : Prop := manifoldMonotoneUptoRow.holds Tryz.pinned (OpenSpec.upto manifoldMonotoneSpec)

/-- 'armplanlaw33.ProjectHolds', WHERE WHAT IT READS IS OF BULK AT MOST 1048576: true; the input reads as it did. -/
def projectHoldsUptoRow : OpenClaim := { program := "ytnlnbnjnapofmaagreat", sum := "bef85868be642e786bdeb3879503c1fde5b93fc0e302ac4d188b4019a300b85c", func := "armplan/armplanlaw33.ProjectHolds", spec := "projectHolds", unfollowed := true, recurses := true, apart := false, narrowed := true }
def ProjectHoldsUptoSaid : Prop := projectHoldsUptoRow.holds Tryz.pinned (OpenSpec.upto projectHoldsSpec)

/-- 'armplanlaw33.ProjectHeights', WHERE WHAT IT READS IS OF BULK AT MOST 1048576: true; the input reads as it did. -/
def projectHeightsUptoRow : OpenClaim := { program := "ytnlnbnjnapofmaagreat", sum := "bef85868be642e786bdeb3879503c1fde5b93fc0e302ac4d188b4019a300b85c", func := "armplan/armplanlaw33.ProjectHeights", spec := "projectHeights", unfollowed := true, recurses := true, apart := false, narrowed := true }
def ProjectHeightsUptoSaid : Prop := projectHeightsUptoRow.holds Tryz.pinned (OpenSpec.upto projectHeightsSpec)

/-- 'armplanlaw32.ManifoldInstants', WHERE WHAT IT READS IS OF BULK AT MOST 1048576: true; the input reads as it did. -/
def manifoldInstantsUptoRow : OpenClaim := { program := "ytnlnbnjnapofmaagreat", sum := "bef85868be642e786bdeb3879503c1fde5b93fc0e302ac4d188b4019a300b85c", func := "armplan/armplanlaw32.ManifoldInstants", spec := "manifoldInstants", unfollowed := true, recurses := true, apart := false, narrowed := true }
def ManifoldInstantsUptoSaid : Prop := manifoldInstantsUptoRow.holds Tryz.pinned (OpenSpec.upto manifoldInstantsSpec)

/-- 'armplanlaw33.ProjectNears', WHERE WHAT IT READS IS OF BULK AT MOST 1048576: true; the input reads as it did. -/
def projectNearsUptoRow : OpenClaim := { program := "ytnlnbnjnapofmaagreat", sum := "bef85868be642e786bdeb3879503c1fde5b93fc0e302ac4d188b4019a300b85c", func := "armplan/armplanlaw33.ProjectNears", spec := "projectNears", unfollowed := true, recurses := true, apart := false, narrowed := true }
def ProjectNearsUptoSaid : Prop := projectNearsUptoRow.holds Tryz.pinned (OpenSpec.upto projectNearsSpec)

/-- 'armplanlaw33.ProjectStraight', WHERE WHAT IT READS IS OF BULK AT MOST 1048576: true; the input reads as it did. -/
def projectStraightUptoRow : OpenClaim := { program := "ytnlnbnjnapofmaagreat", sum := "bef85868be642e786bdeb3879503c1fde5b93fc0e302ac4d188b4019a300b85c", func := "armplan/armplanlaw33.ProjectStraight", spec := "projectStraight", unfollowed := true, recurses := true, apart := false, narrowed := true }
def ProjectStraightUptoSaid : Prop := projectStraightUptoRow.holds Tryz.pinned (OpenSpec.upto projectStraightSpec)

end Rows
end Go.Proofs.YtnlnbnjnapofmaaGreat

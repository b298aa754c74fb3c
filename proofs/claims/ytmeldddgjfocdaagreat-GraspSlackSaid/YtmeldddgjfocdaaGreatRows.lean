/-
  No cell of these rows narrows 'for every input' (looked for: loops, veiled, ifaces, maps, wideKeys, modest, calm, conditions, laid).
  DERIVED. THE GIVEN ROWS OF THIS SEAT. 8 by the template 'for every input the law returns true; each argument reads behind the call as it read before'; 0 by the template 'total and deterministic' (their statements: YtmeldddgjfocdaaGreatTotals.lean).
  GIVEN WITH THE SEED: the statements are not yours to turn. If you find one false, say at which input.
  Laid BY PROGRAM, IN A SANDBOX (cutbox-rows.mjs): the forced cells as the released guide's own fill.sh prints them over the translation 39c81109433a8f80… (all of the seat's roots in one cut). By AI agents, Wed Nov 11 2026. No macro, syntax, notation, axiom, sorry.
-/
import Derived.Test.YtmeldddgjfocdaaGreatChecked
import GoSem.Claim
import GoSem.ClaimJoined
import GoSem.ClaimMapViews
import Derived.JoinedTies
import Derived.KernelRfl
namespace Go.Proofs.YtmeldddgjfocdaaGreat
/- THE CELL 'sum', in the pinned program and in every row, IS THE sha256 OF THE DUMP (.gsa) THAT YtmeldddgjfocdaaGreatProg.lean LOADS. Nothing in Lean hashes anything: it is a label: what it is worth is what the hold of that sum in a sandbox is worth. -/
noncomputable def Tryz.pinned : Pinned := { name := "ytmeldddgjfocdaagreat", sum := "39c81109433a8f80f7365db317967a9d314fa6329fbbcc877f33c4326c947314", checked := Tryz.checked }
namespace Rows
def none {H : Type} : Left H := { results := [], args := [] }

/-- 'armplanlaw11.KinematicsLinks': WHATEVER THE INPUT: true; the input reads as it did. -/
def kinematicsLinksSpec : ChangeSpec := { name := "kinematicsLinks", fn := fun _ => fun
  | [d1, d2, d3, d4] => { results := [.lit (.bool true)], args := [d1, d2, d3, d4] }
  | _ => none }
def kinematicsLinksRow : OpenClaim := { program := "ytmeldddgjfocdaagreat", sum := "39c81109433a8f80f7365db317967a9d314fa6329fbbcc877f33c4326c947314", func := "armplan/armplanlaw11.KinematicsLinks", spec := "kinematicsLinks", unfollowed := true, recurses := true, apart := false }
def KinematicsLinksSaid : Prop := kinematicsLinksRow.holds Tryz.pinned (OpenSpec.ofChange kinematicsLinksSpec)

/-- ITS FALSE NEIGHBOUR: 'it returns false'. Refute it at one input. -/
def kinematicsLinksWrong : ChangeSpec := { name := "kinematicsLinks", fn := fun _ => fun
  | [d1, d2, d3, d4] => { results := [.lit (.bool false)], args := [d1, d2, d3, d4] }
  | _ => none }
def KinematicsLinksWrongFalsely : Prop := kinematicsLinksRow.holds Tryz.pinned (OpenSpec.ofChange kinematicsLinksWrong)

/-- 'armplanlaw34.GraspChecks': WHATEVER THE INPUT: true; the input reads as it did. -/
def graspChecksSpec : ChangeSpec := { name := "graspChecks", fn := fun _ => fun
  | [d1, d2, d3, d4] => { results := [.lit (.bool true)], args := [d1, d2, d3, d4] }
  | _ => none }
def graspChecksRow : OpenClaim := { program := "ytmeldddgjfocdaagreat", sum := "39c81109433a8f80f7365db317967a9d314fa6329fbbcc877f33c4326c947314", func := "armplan/armplanlaw34.GraspChecks", spec := "graspChecks", unfollowed := true, recurses := true, apart := false }
def GraspChecksSaid : Prop := graspChecksRow.holds Tryz.pinned (OpenSpec.ofChange graspChecksSpec)

/-- ITS FALSE NEIGHBOUR: 'it returns false'. Refute it at one input. -/
def graspChecksWrong : ChangeSpec := { name := "graspChecks", fn := fun _ => fun
  | [d1, d2, d3, d4] => { results := [.lit (.bool false)], args := [d1, d2, d3, d4] }
  | _ => none }
def GraspChecksWrongFalsely : Prop := graspChecksRow.holds Tryz.pinned (OpenSpec.ofChange graspChecksWrong)

/-- 'armplanlaw34.GraspScenes': WHATEVER THE INPUT: true; the input reads as it did. -/
def graspScenesSpec : ChangeSpec := { name := "graspScenes", fn := fun _ => fun
  | [d1, d2, d3, d4, d5, d6] => { results := [.lit (.bool true)], args := [d1, d2, d3, d4, d5, d6] }
  | _ => none }
def graspScenesRow : OpenClaim := { program := "ytmeldddgjfocdaagreat", sum := "39c81109433a8f80f7365db317967a9d314fa6329fbbcc877f33c4326c947314", func := "armplan/armplanlaw34.GraspScenes", spec := "graspScenes", unfollowed := true, recurses := true, apart := false }
def GraspScenesSaid : Prop := graspScenesRow.holds Tryz.pinned (OpenSpec.ofChange graspScenesSpec)

/-- ITS FALSE NEIGHBOUR: 'it returns false'. Refute it at one input. -/
def graspScenesWrong : ChangeSpec := { name := "graspScenes", fn := fun _ => fun
  | [d1, d2, d3, d4, d5, d6] => { results := [.lit (.bool false)], args := [d1, d2, d3, d4, d5, d6] }
  | _ => none }
def GraspScenesWrongFalsely : Prop := graspScenesRow.holds Tryz.pinned (OpenSpec.ofChange graspScenesWrong)

/-- 'armplanlaw34.GraspHands': WHATEVER THE INPUT: true; the input reads as it did. -/
def graspHandsSpec : ChangeSpec := { name := "graspHands", fn := fun _ => fun
  | [d1, d2, d3, d4, d5, d6, d7, d8, d9, d10] => { results := [.lit (.bool true)], args := [d1, d2, d3, d4, d5, d6, d7, d8, d9, d10] }
  | _ => none }
def graspHandsRow : OpenClaim := { program := "ytmeldddgjfocdaagreat", sum := "39c81109433a8f80f7365db317967a9d314fa6329fbbcc877f33c4326c947314", func := "armplan/armplanlaw34.GraspHands", spec := "graspHands", unfollowed := true, recurses := true, apart := false }
def GraspHandsSaid : Prop := graspHandsRow.holds Tryz.pinned (OpenSpec.ofChange graspHandsSpec)

/-- ITS FALSE NEIGHBOUR: 'it returns false'. Refute it at one input. -/
def graspHandsWrong : ChangeSpec := { name := "graspHands", fn := fun _ => fun
  | [d1, d2, d3, d4, d5, d6, d7, d8, d9, d10] => { results := [.lit (.bool false)], args := [d1, d2, d3, d4, d5, d6, d7, d8, d9, d10] }
  | _ => none }
def GraspHandsWrongFalsely : Prop := graspHandsRow.holds Tryz.pinned (OpenSpec.ofChange graspHandsWrong)

/-- 'armplanlaw34.GraspMoves': WHATEVER THE INPUT: true; the input reads as it did. -/
def graspMovesSpec : ChangeSpec := { name := "graspMoves", fn := fun _ => fun
  | [d1, d2, d3, d4, d5, d6, d7, d8, d9, d10] => { results := [.lit (.bool true)], args := [d1, d2, d3, d4, d5, d6, d7, d8, d9, d10] }
  | _ => none }
def graspMovesRow : OpenClaim := { program := "ytmeldddgjfocdaagreat", sum := "39c81109433a8f80f7365db317967a9d314fa6329fbbcc877f33c4326c947314", func := "armplan/armplanlaw34.GraspMoves", spec := "graspMoves", unfollowed := true, recurses := true, apart := false }
def GraspMovesSaid : Prop := graspMovesRow.holds Tryz.pinned (OpenSpec.ofChange graspMovesSpec)

/-- ITS FALSE NEIGHBOUR: 'it returns false'. Refute it at one input. -/
def graspMovesWrong : ChangeSpec := { name := "graspMoves", fn := fun _ => fun
  | [d1, d2, d3, d4, d5, d6, d7, d8, d9, d10] => { results := [.lit (.bool false)], args := [d1, d2, d3, d4, d5, d6, d7, d8, d9, d10] }
  | _ => none }
def GraspMovesWrongFalsely : Prop := graspMovesRow.holds Tryz.pinned (OpenSpec.ofChange graspMovesWrong)

/-- 'armplanlaw34.GraspReturns': WHATEVER THE INPUT: true; the input reads as it did. -/
def graspReturnsSpec : ChangeSpec := { name := "graspReturns", fn := fun _ => fun
  | [d1, d2, d3, d4, d5, d6] => { results := [.lit (.bool true)], args := [d1, d2, d3, d4, d5, d6] }
  | _ => none }
def graspReturnsRow : OpenClaim := { program := "ytmeldddgjfocdaagreat", sum := "39c81109433a8f80f7365db317967a9d314fa6329fbbcc877f33c4326c947314", func := "armplan/armplanlaw34.GraspReturns", spec := "graspReturns", unfollowed := true, recurses := true, apart := false }
def GraspReturnsSaid : Prop := graspReturnsRow.holds Tryz.pinned (OpenSpec.ofChange graspReturnsSpec)

/-- ITS FALSE NEIGHBOUR: 'it returns false'. Refute it at one input. -/
def graspReturnsWrong : ChangeSpec := { name := "graspReturns", fn := fun _ => fun
  | [d1, d2, d3, d4, d5, d6] => { results := [.lit (.bool false)], args := [d1, d2, d3, d4, d5, d6] }
  | _ => none }
def GraspReturnsWrongFalsely : Prop := graspReturnsRow.holds Tryz.pinned (OpenSpec.ofChange graspReturnsWrong)

/-- 'armplanlaw34.GraspCounts': WHATEVER THE INPUT: true; the input reads as it did. -/
def graspCountsSpec : ChangeSpec := { name := "graspCounts", fn := fun _ => fun
  | [d1, d2] => { results := [.lit (.bool true)], args := [d1, d2] }
  | _ => none }
def graspCountsRow : OpenClaim := { program := "ytmeldddgjfocdaagreat", sum := "39c81109433a8f80f7365db317967a9d314fa6329fbbcc877f33c4326c947314", func := "armplan/armplanlaw34.GraspCounts", spec := "graspCounts", unfollowed := true, recurses := true, apart := false }
def GraspCountsSaid : Prop := graspCountsRow.holds Tryz.pinned (OpenSpec.ofChange graspCountsSpec)

/-- ITS FALSE NEIGHBOUR: 'it returns false'. Refute it at one input. -/
def graspCountsWrong : ChangeSpec := { name := "graspCounts", fn := fun _ => fun
  | [d1, d2] => { results := [.lit (.bool false)], args := [d1, d2] }
  | _ => none }
def GraspCountsWrongFalsely : Prop := graspCountsRow.holds Tryz.pinned (OpenSpec.ofChange graspCountsWrong)

/-- 'armplanlaw34.GraspSlack': WHATEVER THE INPUT: true; the input reads as it did. -/
def graspSlackSpec : ChangeSpec := { name := "graspSlack", fn := fun _ => fun
  | [d1, d2, d3, d4, d5] => { results := [.lit (.bool true)], args := [d1, d2, d3, d4, d5] }
  | _ => none }
def graspSlackRow : OpenClaim := { program := "ytmeldddgjfocdaagreat", sum := "39c81109433a8f80f7365db317967a9d314fa6329fbbcc877f33c4326c947314", func := "armplan/armplanlaw34.GraspSlack", spec := "graspSlack", unfollowed := true, recurses := true, apart := false }
def GraspSlackSaid : Prop := graspSlackRow.holds Tryz.pinned (OpenSpec.ofChange graspSlackSpec)

/-- ITS FALSE NEIGHBOUR: 'it returns false'. Refute it at one input. -/
def graspSlackWrong : ChangeSpec := { name := "graspSlack", fn := fun _ => fun
  | [d1, d2, d3, d4, d5] => { results := [.lit (.bool false)], args := [d1, d2, d3, d4, d5] }
  | _ => none }
def GraspSlackWrongFalsely : Prop := graspSlackRow.holds Tryz.pinned (OpenSpec.ofChange graspSlackWrong)

/- THE SECOND FORM. 'bulk': how many values and letters a reading holds, each counted each time it is reached (what is shared counts as often as it is met; a slice's spare places count too). A statement '..UptoSaid' is the law's where the arguments, and the package variables that the reading takes, are together of bulk at most 1048576: NARROWER than '..Said'. Prove '..Said' where nothing that the law and all that it calls make is longer than what came in: it says more and counts as full. Else prove '..UptoSaid'. A law counts once. -/
mutual
def uptoBulk {H : Type} : DataW H → Nat
  | .lit (.string bytes) => bytes.length + 1
  | .lit _ => 1
  | .nil => 1
  | .ptr d => uptoBulk d + 1
  | .slice elems spare => uptoBulkAll elems + uptoBulkAll spare + 1
  | .agg parts => uptoBulkAll parts + 1
  | .iface _ d => uptoBulk d + 1
  | .map entries => uptoBulkEntries entries + 1
  | .held _ => 1
def uptoBulkAll {H : Type} : List (DataW H) → Nat
  | [] => 0
  | d :: r => uptoBulk d + uptoBulkAll r
def uptoBulkEntries {H : Type} : List (Lit × DataW H) → Nat
  | [] => 0
  | x :: r => uptoBulkEntry x + uptoBulkEntries r
def uptoBulkEntry {H : Type} : Lit × DataW H → Nat
  | (.string bytes, d) => bytes.length + uptoBulk d + 1
  | (_, d) => uptoBulk d + 1
 end
def uptoSmall : (H : Type) → List (DataW H) → Bool := fun _ ds => decide (uptoBulkAll ds ≤ 1048576)
def OpenSpec.upto (s : _root_.Go.ChangeSpec) : _root_.Go.OpenSpec := { _root_.Go.OpenSpec.ofChange s with cond := some uptoSmall }

/-- 'armplanlaw11.KinematicsLinks', WHERE WHAT IT READS IS OF BULK AT MOST 1048576: true; the input reads as it did. -/
def kinematicsLinksUptoRow : OpenClaim := { program := "ytmeldddgjfocdaagreat", sum := "39c81109433a8f80f7365db317967a9d314fa6329fbbcc877f33c4326c947314", func := "armplan/armplanlaw11.KinematicsLinks", spec := "kinematicsLinks", unfollowed := true, recurses := true, apart := false, narrowed := true }
def KinematicsLinksUptoSaid : Prop := kinematicsLinksUptoRow.holds Tryz.pinned (OpenSpec.upto kinematicsLinksSpec)

/-- 'armplanlaw34.GraspChecks', WHERE WHAT IT READS IS OF BULK AT MOST 1048576: true; the input reads as it did. -/
def graspChecksUptoRow : OpenClaim := { program := "ytmeldddgjfocdaagreat", sum := "39c81109433a8f80f7365db317967a9d314fa6329fbbcc877f33c4326c947314", func := "armplan/armplanlaw34.GraspChecks", spec := "graspChecks", unfollowed := true, recurses := true, apart := false, narrowed := true }
def GraspChecksUptoSaid : Prop := graspChecksUptoRow.holds Tryz.pinned (OpenSpec.upto graspChecksSpec)

/-- 'armplanlaw34.GraspScenes', WHERE WHAT IT READS IS OF BULK AT MOST 1048576: true; the input reads as it did. -/
def graspScenesUptoRow : OpenClaim := { program := "ytmeldddgjfocdaagreat", sum := "39c81109433a8f80f7365db317967a9d314fa6329fbbcc877f33c4326c947314", func := "armplan/armplanlaw34.GraspScenes", spec := "graspScenes", unfollowed := true, recurses := true, apart := false, narrowed := true }
def GraspScenesUptoSaid : Prop := graspScenesUptoRow.holds Tryz.pinned (OpenSpec.upto graspScenesSpec)

/-- 'armplanlaw34.GraspHands', WHERE WHAT IT READS IS OF BULK AT MOST 1048576: true; the input reads as it did. -/
def graspHandsUptoRow : OpenClaim := { program := "ytmeldddgjfocdaagreat", sum := "39c81109433a8f80f7365db317967a9d314fa6329fbbcc877f33c4326c947314", func := "armplan/armplanlaw34.GraspHands", spec := "graspHands", unfollowed := true, recurses := true, apart := false, narrowed := true }
def GraspHandsUptoSaid : Prop := graspHandsUptoRow.holds Tryz.pinned (OpenSpec.upto graspHandsSpec)

/-- 'armplanlaw34.GraspMoves', WHERE WHAT IT READS IS OF BULK AT MOST 1048576: true; the input reads as it did. -/
def graspMovesUptoRow : OpenClaim := { program := "ytmeldddgjfocdaagreat", sum := "39c81109433a8f80f7365db317967a9d314fa6329fbbcc877f33c4326c947314", func := "armplan/armplanlaw34.GraspMoves", spec := "graspMoves", unfollowed := true, recurses := true, apart := false, narrowed := true }
def GraspMovesUptoSaid : Prop := graspMovesUptoRow.holds Tryz.pinned (OpenSpec.upto graspMovesSpec)

/-- 'armplanlaw34.GraspReturns', WHERE WHAT IT READS IS OF BULK AT MOST 1048576: true; the input reads as it did. -/
def graspReturnsUptoRow : OpenClaim := { program := "ytmeldddgjfocdaagreat", sum := "39c81109433a8f80f7365db317967a9d314fa6329fbbcc877f33c4326c947314", func := "armplan/armplanlaw34.GraspReturns", spec := "graspReturns", unfollowed := true, recurses := true, apart := false, narrowed := true }
def GraspReturnsUptoSaid : Prop := graspReturnsUptoRow.holds Tryz.pinned (OpenSpec.upto graspReturnsSpec)

/-- 'armplanlaw34.GraspCounts', WHERE WHAT IT READS IS OF BULK AT MOST 1048576: true; the input reads as it did. -/
def graspCountsUptoRow : OpenClaim := { program := "ytmeldddgjfocdaagreat", sum := "39c81109433a8f80f7365db317967a9d314fa6329fbbcc877f33c4326c947314", func := "armplan/armplanlaw34.GraspCounts", spec := "graspCounts", unfollowed := true, recurses := true, apart := false, narrowed := true }
def GraspCountsUptoSaid : Prop := graspCountsUptoRow.holds Tryz.pinned (OpenSpec.upto graspCountsSpec)

/-- 'armplanlaw34.GraspSlack', WHERE WHAT IT READS IS OF BULK AT MOST 1048576: true; the input reads as it did. -/
def graspSlackUptoRow : OpenClaim := { program := "ytmeldddgjfocdaagreat", sum := "39c81109433a8f80f7365db317967a9d314fa6329fbbcc877f33c4326c947314", func := "armplan/armplanlaw34.GraspSlack", spec := "graspSlack", unfollowed := true, recurses := true, apart := false, narrowed := true }
def GraspSlackUptoSaid : Prop := graspSlackUptoRow.holds Tryz.pinned (OpenSpec.upto graspSlackSpec)

end Rows
end Go.Proofs.YtmeldddgjfocdaaGreat

/-
  No cell of these rows narrows 'for every input' (looked for: loops, veiled, ifaces, maps, wideKeys, modest, calm, conditions, laid).
  DERIVED. THE GIVEN ROWS OF THIS SEAT. 5 by the template 'for every input the law returns true; each argument reads behind the call as it read before'; 0 by the template 'total and deterministic' (their statements: YtgmbkkkbfbocnaaGreatTotals.lean).
  GIVEN WITH THE SEED: the statements are not yours to turn. If you find one false, say at which input.
  Laid BY PROGRAM, IN A SANDBOX (cutbox-rows.mjs): the forced cells as the released guide's own fill.sh prints them over the translation 899d08d2f3c32f92… (all of the seat's roots in one cut). By AI agents, Wed Nov 11 2026. No macro, syntax, notation, axiom, sorry.
-/
import Derived.Test.YtgmbkkkbfbocnaaGreatChecked
import GoSem.Claim
import GoSem.ClaimJoined
import GoSem.ClaimMapViews
import Derived.JoinedTies
import Derived.KernelRfl
namespace Go.Proofs.YtgmbkkkbfbocnaaGreat
/- THE CELL 'sum', in the pinned program and in every row, IS THE sha256 OF THE DUMP (.gsa) THAT YtgmbkkkbfbocnaaGreatProg.lean LOADS. Nothing in Lean hashes anything: it is a label: what it is worth is what the hold of that sum in a sandbox is worth. -/
noncomputable def Tryz.pinned : Pinned := { name := "ytgmbkkkbfbocnaagreat", sum := "899d08d2f3c32f929fe8c01263144155bd24c2ecc6f93078a7f32bf83f20351a", checked := Tryz.checked }
namespace Rows
def none {H : Type} : Left H := { results := [], args := [] }

/-- 'armplanlaw11.KinematicsLinks': WHATEVER THE INPUT: true; the input reads as it did. -/
def kinematicsLinksSpec : ChangeSpec := { name := "kinematicsLinks", fn := fun _ => fun
  | [d1, d2, d3, d4] => { results := [.lit (.bool true)], args := [d1, d2, d3, d4] }
  | _ => none }
def kinematicsLinksRow : OpenClaim := { program := "ytgmbkkkbfbocnaagreat", sum := "899d08d2f3c32f929fe8c01263144155bd24c2ecc6f93078a7f32bf83f20351a", func := "armplan/armplanlaw11.KinematicsLinks", spec := "kinematicsLinks", unfollowed := true, recurses := true, apart := false }
def KinematicsLinksSaid : Prop := kinematicsLinksRow.holds Tryz.pinned (OpenSpec.ofChange kinematicsLinksSpec)

/-- ITS FALSE NEIGHBOUR: 'it returns false'. Refute it at one input. -/
def kinematicsLinksWrong : ChangeSpec := { name := "kinematicsLinks", fn := fun _ => fun
  | [d1, d2, d3, d4] => { results := [.lit (.bool false)], args := [d1, d2, d3, d4] }
  | _ => none }
def KinematicsLinksWrongFalsely : Prop := kinematicsLinksRow.holds Tryz.pinned (OpenSpec.ofChange kinematicsLinksWrong)

/-- 'armplanlaw34.GraspChecks': WHATEVER THE INPUT: true; the input reads as it did. -/
def graspChecksSpec : ChangeSpec := { name := "graspChecks", fn := fun _ => fun
  | [d1, d2, d3, d4] => { results := [.lit (.bool true)], args := [d1, d2, d3, d4] }
  | _ => none }
def graspChecksRow : OpenClaim := { program := "ytgmbkkkbfbocnaagreat", sum := "899d08d2f3c32f929fe8c01263144155bd24c2ecc6f93078a7f32bf83f20351a", func := "armplan/armplanlaw34.GraspChecks", spec := "graspChecks", unfollowed := true, recurses := true, apart := false }
def GraspChecksSaid : Prop := graspChecksRow.holds Tryz.pinned (OpenSpec.ofChange graspChecksSpec)

/-- ITS FALSE NEIGHBOUR: 'it returns false'. Refute it at one input. -/
def graspChecksWrong : ChangeSpec := { name := "graspChecks", fn := fun _ => fun
  | [d1, d2, d3, d4] => { results := [.lit (.bool false)], args := [d1, d2, d3, d4] }
  | _ => none }
def GraspChecksWrongFalsely : Prop := graspChecksRow.holds Tryz.pinned (OpenSpec.ofChange graspChecksWrong)

/-- 'armplanlaw34.GraspScenes': WHATEVER THE INPUT: true; the input reads as it did. -/
def graspScenesSpec : ChangeSpec := { name := "graspScenes", fn := fun _ => fun
  | [d1, d2, d3, d4, d5, d6] => { results := [.lit (.bool true)], args := [d1, d2, d3, d4, d5, d6] }
  | _ => none }
def graspScenesRow : OpenClaim := { program := "ytgmbkkkbfbocnaagreat", sum := "899d08d2f3c32f929fe8c01263144155bd24c2ecc6f93078a7f32bf83f20351a", func := "armplan/armplanlaw34.GraspScenes", spec := "graspScenes", unfollowed := true, recurses := true, apart := false }
def GraspScenesSaid : Prop := graspScenesRow.holds Tryz.pinned (OpenSpec.ofChange graspScenesSpec)

/-- ITS FALSE NEIGHBOUR: 'it returns false'. Refute it at one input. -/
def graspScenesWrong : ChangeSpec := { name := "graspScenes", fn := fun _ => fun
  | [d1, d2, d3, d4, d5, d6] => { results := [.lit (.bool false)], args := [d1, d2, d3, d4, d5, d6] }
  | _ => none }
def GraspScenesWrongFalsely : Prop := graspScenesRow.holds Tryz.pinned (OpenSpec.ofChange graspScenesWrong)

/-- 'armplanlaw34.GraspHands': WHATEVER THE INPUT: true; the input reads as it did. -/
def graspHandsSpec : ChangeSpec := { name := "graspHands", fn := fun _ => fun
  | [d1, d2, d3, d4, d5, d6, d7, d8, d9, d10] => { results := [.lit (.bool true)], args := [d1, d2, d3, d4, d5, d6, d7, d8, d9, d10] }
  | _ => none }
def graspHandsRow : OpenClaim := { program := "ytgmbkkkbfbocnaagreat", sum := "899d08d2f3c32f929fe8c01263144155bd24c2ecc6f93078a7f32bf83f20351a", func := "armplan/armplanlaw34.GraspHands", spec := "graspHands", unfollowed := true, recurses := true, apart := false }
def GraspHandsSaid : Prop := graspHandsRow.holds Tryz.pinned (OpenSpec.ofChange graspHandsSpec)

/-- ITS FALSE NEIGHBOUR: 'it returns false'. Refute it at one input. -/
def graspHandsWrong : ChangeSpec := { name := "graspHands", fn := fun _ => fun
  | [d1, d2, d3, d4, d5, d6, d7, d8, d9, d10] => { results := [.lit (.bool false)], args := [d1, d2, d3, d4, d5, d6, d7, d8, d9, d10] }
  | _ => none }
def GraspHandsWrongFalsely : Prop := graspHandsRow.holds Tryz.pinned (OpenSpec.ofChange graspHandsWrong)

/-- 'armplanlaw34.GraspMoves': WHATEVER THE INPUT: true; the input reads as it did. -/
def graspMovesSpec : ChangeSpec := { name := "graspMoves", fn := fun _ => fun
  | [d1, d2, d3, d4, d5, d6, d7, d8, d9, d10] => { results := [.lit (.bool true)], args := [d1, d2, d3, d4, d5, d6, d7, d8, d9, d10] }
  | _ => none }
def graspMovesRow : OpenClaim := { program := "ytgmbkkkbfbocnaagreat", sum := "899d08d2f3c32f929fe8c01263144155bd24c2ecc6f93078a7f32bf83f20351a", func := "armplan/armplanlaw34.GraspMoves", spec := "graspMoves", unfollowed := true, recurses := true, apart := false }
def GraspMovesSaid : Prop := graspMovesRow.holds Tryz.pinned (OpenSpec.ofChange graspMovesSpec)

/-- ITS FALSE NEIGHBOUR: 'it returns false'. Refute it at one input. -/
def graspMovesWrong : ChangeSpec := { name := "graspMoves", fn := fun _ => fun
  | [d1, d2, d3, d4, d5, d6, d7, d8, d9, d10] => { results := [.lit (.bool false)], args := [d1, d2, d3, d4, d5, d6, d7, d8, d9, d10] }
  | _ => none }
def GraspMovesWrongFalsely : Prop := graspMovesRow.holds Tryz.pinned (OpenSpec.ofChange graspMovesWrong)

/- THE SECOND FORM. 'bulk': how many values and letters a reading holds, each counted each time it is reached (what is shared counts as often as it is met; a slice's spare places count too). A statement '..UptoSaid' is the law's where the arguments, and the package variables that the reading takes, are together of bulk at most 1048576: NARROWER than '..Said'. Prove '..Said' where nothing that the law and all that it calls make is longer than what came in: it says more and counts as full. Else prove '..UptoSaid'. A law counts once. -/
mutual
def uptoBulk {H : Type} : DataW H → Nat
  | .lit (.string bytes) => bytes.length + 1
  | .lit _ => 1
  | .nil => 1
  | .ptr d => uptoBulk d + 1
  | .slice elems spare => uptoBulkAll elems + uptoBulkAll spare + 1
  | .agg parts => uptoBulkAll parts + 1
  | .iface _ d => uptoBulk d + 1
  | .map entries => uptoBulkEntries entries + 1
  | .held _ => 1
def uptoBulkAll {H : Type} : List (DataW H) → Nat
  | [] => 0
  | d :: r => uptoBulk d + uptoBulkAll r
def uptoBulkEntries {H : Type} : List (Lit × DataW H) → Nat
  | [] => 0
  | x :: r => uptoBulkEntry x + uptoBulkEntries r
def uptoBulkEntry {H : Type} : Lit × DataW H → Nat
  | (.string bytes, d) => bytes.length + uptoBulk d + 1
  | (_, d) => uptoBulk d + 1
 end
def uptoSmall : (H : Type) → List (DataW H) → Bool := fun _ ds => decide (uptoBulkAll ds ≤ 1048576)
def OpenSpec.upto (s : _root_.Go.ChangeSpec) : _root_.Go.OpenSpec := { _root_.Go.OpenSpec.ofChange s with cond := some uptoSmall }

/-- 'armplanlaw11.KinematicsLinks', WHERE WHAT IT READS IS OF BULK AT MOST 1048576: true; the input reads as it did. -/
def kinematicsLinksUptoRow : OpenClaim := { program := "ytgmbkkkbfbocnaagreat", sum := "899d08d2f3c32f929fe8c01263144155bd24c2ecc6f93078a7f32bf83f20351a", func := "armplan/armplanlaw11.KinematicsLinks", spec := "kinematicsLinks", unfollowed := true, recurses := true, apart := false, narrowed := true }
def KinematicsLinksUptoSaid : Prop := kinematicsLinksUptoRow.holds Tryz.pinned (OpenSpec.upto kinematicsLinksSpec)

/-- 'armplanlaw34.GraspChecks', WHERE WHAT IT READS IS OF BULK AT MOST 1048576: true; the input reads as it did. -/
def graspChecksUptoRow : OpenClaim := { program := "ytgmbkkkbfbocnaagreat", sum := "899d08d2f3c32f929fe8c01263144155bd24c2ecc6f93078a7f32bf83f20351a", func := "armplan/armplanlaw34.GraspChecks", spec := "graspChecks", unfollowed := true, recurses := true, apart := false, narrowed := true }
def GraspChecksUptoSaid : Prop := graspChecksUptoRow.holds Tryz.pinned (OpenSpec.upto graspChecksSpec)

/-- 'armplanlaw34.GraspScenes', WHERE WHAT IT READS IS OF BULK AT MOST 1048576: true; the input reads as it did. -/
def graspScenesUptoRow : OpenClaim := { program := "ytgmbkkkbfbocnaagreat", sum := "899d08d2f3c32f929fe8c01263144155bd24c2ecc6f93078a7f32bf83f20351a", func := "armplan/armplanlaw34.GraspScenes", spec := "graspScenes", unfollowed := true, recurses := true, apart := false, narrowed := true }
def GraspScenesUptoSaid : Prop := graspScenesUptoRow.holds Tryz.pinned (OpenSpec.upto graspScenesSpec)

/-- 'armplanlaw34.GraspHands', WHERE WHAT IT READS IS OF BULK AT MOST 1048576: true; the input reads as it did. -/
def graspHandsUptoRow : OpenClaim := { program := "ytgmbkkkbfbocnaagreat", sum := "899d08d2f3c32f929fe8c01263144155bd24c2ecc6f93078a7f32bf83f20351a", func := "armplan/armplanlaw34.GraspHands", spec := "graspHands", unfollowed := true, recurses := true, apart := false, narrowed := true }
def GraspHandsUptoSaid : Prop := graspHandsUptoRow.holds Tryz.pinned (OpenSpec.upto graspHandsSpec)

/-- 'armplanlaw34.GraspMoves', WHERE WHAT IT READS IS OF BULK AT MOST 1048576: true; the input reads as it did. -/
def graspMovesUptoRow : OpenClaim := { program := "ytgmbkkkbfbocnaagreat", sum := "899d08d2f3c32f929fe8c01263144155bd24c2ecc6f93078a7f32bf83f20351a", func := "armplan/armplanlaw34.GraspMoves", spec := "graspMoves", unfollowed := true, recurses := true, apart := false, narrowed := true }
def GraspMovesUptoSaid : Prop := graspMovesUptoRow.holds Tryz.pinned (OpenSpec.upto graspMovesSpec)

end Rows
end Go.Proofs.YtgmbkkkbfbocnaaGreat

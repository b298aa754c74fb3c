/-
  No cell of these rows narrows 'for every input' (looked for: loops, veiled, ifaces, maps, wideKeys, modest, calm, conditions, laid).
  DERIVED. THE GIVEN ROWS OF THIS SEAT. 19 by the template 'for every input the law returns true; each argument reads behind the call as it read before'; 0 by the template 'total and deterministic' (their statements: YtonampcmhhhffaaTotals.lean).
  GIVEN WITH THE SEED: the statements are not yours to turn. If you find one false, say at which input.
  Laid BY PROGRAM, IN A SANDBOX (cutbox-rows.mjs): the forced cells as the released guide's own fill.sh prints them over the translation d511b779c07ca93e… (all of the seat's roots in one cut). By AI agents, Wed Nov 11 2026. No macro, syntax, notation, axiom, sorry.
-/
import Derived.Test.YtonampcmhhhffaaChecked
import GoSem.Claim
import GoSem.ClaimJoined
import GoSem.ClaimMapViews
import Derived.JoinedTies
import Derived.KernelRfl
namespace Go.Proofs.Ytonampcmhhhffaa
/- THE CELL 'sum', in the pinned program and in every row, IS THE sha256 OF THE DUMP (.gsa) THAT YtonampcmhhhffaaProg.lean LOADS. Nothing in Lean hashes anything: it is a label: what it is worth is what the hold of that sum in a sandbox is worth. -/
noncomputable def Try.pinned : Pinned := { name := "ytonampcmhhhffaa", sum := "d511b779c07ca93e0a2e515da3e112983fb46853078df64f81bb6f4555ddbb36", checked := Try.checked }
namespace Rows
def none {H : Type} : Left H := { results := [], args := [] }

/-- 'armplanlaw4.MatrixTurns': WHATEVER THE INPUT: true; the input reads as it did. -/
def matrixTurnsSpec : ChangeSpec := { name := "matrixTurns", fn := fun _ => fun
  | [d1, d2, d3, d4] => { results := [.lit (.bool true)], args := [d1, d2, d3, d4] }
  | _ => none }
def matrixTurnsRow : OpenClaim := { program := "ytonampcmhhhffaa", sum := "d511b779c07ca93e0a2e515da3e112983fb46853078df64f81bb6f4555ddbb36", func := "armplan/armplanlaw4.MatrixTurns", spec := "matrixTurns", unfollowed := true, recurses := true, apart := false }
def MatrixTurnsSaid : Prop := matrixTurnsRow.holds Try.pinned (OpenSpec.ofChange matrixTurnsSpec)

/-- ITS FALSE NEIGHBOUR: 'it returns false'. Refute it at one input. -/
def matrixTurnsWrong : ChangeSpec := { name := "matrixTurns", fn := fun _ => fun
  | [d1, d2, d3, d4] => { results := [.lit (.bool false)], args := [d1, d2, d3, d4] }
  | _ => none }
def MatrixTurnsWrongFalsely : Prop := matrixTurnsRow.holds Try.pinned (OpenSpec.ofChange matrixTurnsWrong)

/-- 'armplanlaw4.MatrixLength': WHATEVER THE INPUT: true; the input reads as it did. -/
def matrixLengthSpec : ChangeSpec := { name := "matrixLength", fn := fun _ => fun
  | [d] => { results := [.lit (.bool true)], args := [d] }
  | _ => none }
def matrixLengthRow : OpenClaim := { program := "ytonampcmhhhffaa", sum := "d511b779c07ca93e0a2e515da3e112983fb46853078df64f81bb6f4555ddbb36", func := "armplan/armplanlaw4.MatrixLength", spec := "matrixLength", unfollowed := true, recurses := true, apart := false }
def MatrixLengthSaid : Prop := matrixLengthRow.holds Try.pinned (OpenSpec.ofChange matrixLengthSpec)

/-- ITS FALSE NEIGHBOUR: 'it returns false'. Refute it at one input. -/
def matrixLengthWrong : ChangeSpec := { name := "matrixLength", fn := fun _ => fun
  | [d] => { results := [.lit (.bool false)], args := [d] }
  | _ => none }
def MatrixLengthWrongFalsely : Prop := matrixLengthRow.holds Try.pinned (OpenSpec.ofChange matrixLengthWrong)

/-- 'armplanlaw4.MatrixQuarters': WHATEVER THE INPUT: true; the input reads as it did. -/
def matrixQuartersSpec : ChangeSpec := { name := "matrixQuarters", fn := fun _ => fun
  | [d1, d2] => { results := [.lit (.bool true)], args := [d1, d2] }
  | _ => none }
def matrixQuartersRow : OpenClaim := { program := "ytonampcmhhhffaa", sum := "d511b779c07ca93e0a2e515da3e112983fb46853078df64f81bb6f4555ddbb36", func := "armplan/armplanlaw4.MatrixQuarters", spec := "matrixQuarters", unfollowed := true, recurses := true, apart := false }
def MatrixQuartersSaid : Prop := matrixQuartersRow.holds Try.pinned (OpenSpec.ofChange matrixQuartersSpec)

/-- ITS FALSE NEIGHBOUR: 'it returns false'. Refute it at one input. -/
def matrixQuartersWrong : ChangeSpec := { name := "matrixQuarters", fn := fun _ => fun
  | [d1, d2] => { results := [.lit (.bool false)], args := [d1, d2] }
  | _ => none }
def MatrixQuartersWrongFalsely : Prop := matrixQuartersRow.holds Try.pinned (OpenSpec.ofChange matrixQuartersWrong)

/-- 'armplanlaw4.MatrixAdds': WHATEVER THE INPUT: true; the input reads as it did. -/
def matrixAddsSpec : ChangeSpec := { name := "matrixAdds", fn := fun _ => fun
  | [d1, d2, d3] => { results := [.lit (.bool true)], args := [d1, d2, d3] }
  | _ => none }
def matrixAddsRow : OpenClaim := { program := "ytonampcmhhhffaa", sum := "d511b779c07ca93e0a2e515da3e112983fb46853078df64f81bb6f4555ddbb36", func := "armplan/armplanlaw4.MatrixAdds", spec := "matrixAdds", unfollowed := true, recurses := true, apart := false }
def MatrixAddsSaid : Prop := matrixAddsRow.holds Try.pinned (OpenSpec.ofChange matrixAddsSpec)

/-- ITS FALSE NEIGHBOUR: 'it returns false'. Refute it at one input. -/
def matrixAddsWrong : ChangeSpec := { name := "matrixAdds", fn := fun _ => fun
  | [d1, d2, d3] => { results := [.lit (.bool false)], args := [d1, d2, d3] }
  | _ => none }
def MatrixAddsWrongFalsely : Prop := matrixAddsRow.holds Try.pinned (OpenSpec.ofChange matrixAddsWrong)

/-- 'armplanlaw4.MatrixApplies': WHATEVER THE INPUT: true; the input reads as it did. -/
def matrixAppliesSpec : ChangeSpec := { name := "matrixApplies", fn := fun _ => fun
  | [d1, d2, d3, d4, d5] => { results := [.lit (.bool true)], args := [d1, d2, d3, d4, d5] }
  | _ => none }
def matrixAppliesRow : OpenClaim := { program := "ytonampcmhhhffaa", sum := "d511b779c07ca93e0a2e515da3e112983fb46853078df64f81bb6f4555ddbb36", func := "armplan/armplanlaw4.MatrixApplies", spec := "matrixApplies", unfollowed := true, recurses := true, apart := false }
def MatrixAppliesSaid : Prop := matrixAppliesRow.holds Try.pinned (OpenSpec.ofChange matrixAppliesSpec)

/-- ITS FALSE NEIGHBOUR: 'it returns false'. Refute it at one input. -/
def matrixAppliesWrong : ChangeSpec := { name := "matrixApplies", fn := fun _ => fun
  | [d1, d2, d3, d4, d5] => { results := [.lit (.bool false)], args := [d1, d2, d3, d4, d5] }
  | _ => none }
def MatrixAppliesWrongFalsely : Prop := matrixAppliesRow.holds Try.pinned (OpenSpec.ofChange matrixAppliesWrong)

/-- 'armplanlaw4.MatrixOrthogonal': WHATEVER THE INPUT: true; the input reads as it did. -/
def matrixOrthogonalSpec : ChangeSpec := { name := "matrixOrthogonal", fn := fun _ => fun
  | [d] => { results := [.lit (.bool true)], args := [d] }
  | _ => none }
def matrixOrthogonalRow : OpenClaim := { program := "ytonampcmhhhffaa", sum := "d511b779c07ca93e0a2e515da3e112983fb46853078df64f81bb6f4555ddbb36", func := "armplan/armplanlaw4.MatrixOrthogonal", spec := "matrixOrthogonal", unfollowed := true, recurses := true, apart := false }
def MatrixOrthogonalSaid : Prop := matrixOrthogonalRow.holds Try.pinned (OpenSpec.ofChange matrixOrthogonalSpec)

/-- ITS FALSE NEIGHBOUR: 'it returns false'. Refute it at one input. -/
def matrixOrthogonalWrong : ChangeSpec := { name := "matrixOrthogonal", fn := fun _ => fun
  | [d] => { results := [.lit (.bool false)], args := [d] }
  | _ => none }
def MatrixOrthogonalWrongFalsely : Prop := matrixOrthogonalRow.holds Try.pinned (OpenSpec.ofChange matrixOrthogonalWrong)

/-- 'armplanlaw4.MatrixComposes': WHATEVER THE INPUT: true; the input reads as it did. -/
def matrixComposesSpec : ChangeSpec := { name := "matrixComposes", fn := fun _ => fun
  | [d1, d2, d3] => { results := [.lit (.bool true)], args := [d1, d2, d3] }
  | _ => none }
def matrixComposesRow : OpenClaim := { program := "ytonampcmhhhffaa", sum := "d511b779c07ca93e0a2e515da3e112983fb46853078df64f81bb6f4555ddbb36", func := "armplan/armplanlaw4.MatrixComposes", spec := "matrixComposes", unfollowed := true, recurses := true, apart := false }
def MatrixComposesSaid : Prop := matrixComposesRow.holds Try.pinned (OpenSpec.ofChange matrixComposesSpec)

/-- ITS FALSE NEIGHBOUR: 'it returns false'. Refute it at one input. -/
def matrixComposesWrong : ChangeSpec := { name := "matrixComposes", fn := fun _ => fun
  | [d1, d2, d3] => { results := [.lit (.bool false)], args := [d1, d2, d3] }
  | _ => none }
def MatrixComposesWrongFalsely : Prop := matrixComposesRow.holds Try.pinned (OpenSpec.ofChange matrixComposesWrong)

/-- 'armplanlaw4.MatrixMonotone': WHATEVER THE INPUT: true; the input reads as it did. -/
def matrixMonotoneSpec : ChangeSpec := { name := "matrixMonotone", fn := fun _ => fun
  | [d1, d2] => { results := [.lit (.bool true)], args := [d1, d2] }
  | _ => none }
def matrixMonotoneRow : OpenClaim := { program := "ytonampcmhhhffaa", sum := "d511b779c07ca93e0a2e515da3e112983fb46853078df64f81bb6f4555ddbb36", func := "armplan/armplanlaw4.MatrixMonotone", spec := "matrixMonotone", unfollowed := true, recurses := true, apart := false }
def MatrixMonotoneSaid : Prop := matrixMonotoneRow.holds Try.pinned (OpenSpec.ofChange matrixMonotoneSpec)

/-- ITS FALSE NEIGHBOUR: 'it returns false'. Refute it at one input. -/
def matrixMonotoneWrong : ChangeSpec := { name := "matrixMonotone", fn := fun _ => fun
  | [d1, d2] => { results := [.lit (.bool false)], args := [d1, d2] }
  | _ => none }
def MatrixMonotoneWrongFalsely : Prop := matrixMonotoneRow.holds Try.pinned (OpenSpec.ofChange matrixMonotoneWrong)

/-- 'armplanlaw5.PoseChain': WHATEVER THE INPUT: true; the input reads as it did. -/
def poseChainSpec : ChangeSpec := { name := "poseChain", fn := fun _ => fun
  | [d] => { results := [.lit (.bool true)], args := [d] }
  | _ => none }
def poseChainRow : OpenClaim := { program := "ytonampcmhhhffaa", sum := "d511b779c07ca93e0a2e515da3e112983fb46853078df64f81bb6f4555ddbb36", func := "armplan/armplanlaw5.PoseChain", spec := "poseChain", unfollowed := true, recurses := true, apart := false }
def PoseChainSaid : Prop := poseChainRow.holds Try.pinned (OpenSpec.ofChange poseChainSpec)

/-- ITS FALSE NEIGHBOUR: 'it returns false'. Refute it at one input. -/
def poseChainWrong : ChangeSpec := { name := "poseChain", fn := fun _ => fun
  | [d] => { results := [.lit (.bool false)], args := [d] }
  | _ => none }
def PoseChainWrongFalsely : Prop := poseChainRow.holds Try.pinned (OpenSpec.ofChange poseChainWrong)

/-- 'armplanlaw5.PoseShifts': WHATEVER THE INPUT: true; the input reads as it did. -/
def poseShiftsSpec : ChangeSpec := { name := "poseShifts", fn := fun _ => fun
  | [d1, d2, d3] => { results := [.lit (.bool true)], args := [d1, d2, d3] }
  | _ => none }
def poseShiftsRow : OpenClaim := { program := "ytonampcmhhhffaa", sum := "d511b779c07ca93e0a2e515da3e112983fb46853078df64f81bb6f4555ddbb36", func := "armplan/armplanlaw5.PoseShifts", spec := "poseShifts", unfollowed := true, recurses := true, apart := false }
def PoseShiftsSaid : Prop := poseShiftsRow.holds Try.pinned (OpenSpec.ofChange poseShiftsSpec)

/-- ITS FALSE NEIGHBOUR: 'it returns false'. Refute it at one input. -/
def poseShiftsWrong : ChangeSpec := { name := "poseShifts", fn := fun _ => fun
  | [d1, d2, d3] => { results := [.lit (.bool false)], args := [d1, d2, d3] }
  | _ => none }
def PoseShiftsWrongFalsely : Prop := poseShiftsRow.holds Try.pinned (OpenSpec.ofChange poseShiftsWrong)

/-- 'armplanlaw11.KinematicsJoints': WHATEVER THE INPUT: true; the input reads as it did. -/
def kinematicsJointsSpec : ChangeSpec := { name := "kinematicsJoints", fn := fun _ => fun
  | [d1, d2, d3, d4] => { results := [.lit (.bool true)], args := [d1, d2, d3, d4] }
  | _ => none }
def kinematicsJointsRow : OpenClaim := { program := "ytonampcmhhhffaa", sum := "d511b779c07ca93e0a2e515da3e112983fb46853078df64f81bb6f4555ddbb36", func := "armplan/armplanlaw11.KinematicsJoints", spec := "kinematicsJoints", unfollowed := true, recurses := true, apart := false }
def KinematicsJointsSaid : Prop := kinematicsJointsRow.holds Try.pinned (OpenSpec.ofChange kinematicsJointsSpec)

/-- ITS FALSE NEIGHBOUR: 'it returns false'. Refute it at one input. -/
def kinematicsJointsWrong : ChangeSpec := { name := "kinematicsJoints", fn := fun _ => fun
  | [d1, d2, d3, d4] => { results := [.lit (.bool false)], args := [d1, d2, d3, d4] }
  | _ => none }
def KinematicsJointsWrongFalsely : Prop := kinematicsJointsRow.holds Try.pinned (OpenSpec.ofChange kinematicsJointsWrong)

/-- 'armplanlaw5.PoseComposes': WHATEVER THE INPUT: true; the input reads as it did. -/
def poseComposesSpec : ChangeSpec := { name := "poseComposes", fn := fun _ => fun
  | [d1, d2, d3, d4, d5, d6] => { results := [.lit (.bool true)], args := [d1, d2, d3, d4, d5, d6] }
  | _ => none }
def poseComposesRow : OpenClaim := { program := "ytonampcmhhhffaa", sum := "d511b779c07ca93e0a2e515da3e112983fb46853078df64f81bb6f4555ddbb36", func := "armplan/armplanlaw5.PoseComposes", spec := "poseComposes", unfollowed := true, recurses := true, apart := false }
def PoseComposesSaid : Prop := poseComposesRow.holds Try.pinned (OpenSpec.ofChange poseComposesSpec)

/-- ITS FALSE NEIGHBOUR: 'it returns false'. Refute it at one input. -/
def poseComposesWrong : ChangeSpec := { name := "poseComposes", fn := fun _ => fun
  | [d1, d2, d3, d4, d5, d6] => { results := [.lit (.bool false)], args := [d1, d2, d3, d4, d5, d6] }
  | _ => none }
def PoseComposesWrongFalsely : Prop := poseComposesRow.holds Try.pinned (OpenSpec.ofChange poseComposesWrong)

/-- 'armplanlaw5.PoseNeutral': WHATEVER THE INPUT: true; the input reads as it did. -/
def poseNeutralSpec : ChangeSpec := { name := "poseNeutral", fn := fun _ => fun
  | [d1, d2] => { results := [.lit (.bool true)], args := [d1, d2] }
  | _ => none }
def poseNeutralRow : OpenClaim := { program := "ytonampcmhhhffaa", sum := "d511b779c07ca93e0a2e515da3e112983fb46853078df64f81bb6f4555ddbb36", func := "armplan/armplanlaw5.PoseNeutral", spec := "poseNeutral", unfollowed := true, recurses := true, apart := false }
def PoseNeutralSaid : Prop := poseNeutralRow.holds Try.pinned (OpenSpec.ofChange poseNeutralSpec)

/-- ITS FALSE NEIGHBOUR: 'it returns false'. Refute it at one input. -/
def poseNeutralWrong : ChangeSpec := { name := "poseNeutral", fn := fun _ => fun
  | [d1, d2] => { results := [.lit (.bool false)], args := [d1, d2] }
  | _ => none }
def PoseNeutralWrongFalsely : Prop := poseNeutralRow.holds Try.pinned (OpenSpec.ofChange poseNeutralWrong)

/-- 'armplanlaw5.PoseApplies': WHATEVER THE INPUT: true; the input reads as it did. -/
def poseAppliesSpec : ChangeSpec := { name := "poseApplies", fn := fun _ => fun
  | [d1, d2, d3, d4] => { results := [.lit (.bool true)], args := [d1, d2, d3, d4] }
  | _ => none }
def poseAppliesRow : OpenClaim := { program := "ytonampcmhhhffaa", sum := "d511b779c07ca93e0a2e515da3e112983fb46853078df64f81bb6f4555ddbb36", func := "armplan/armplanlaw5.PoseApplies", spec := "poseApplies", unfollowed := true, recurses := true, apart := false }
def PoseAppliesSaid : Prop := poseAppliesRow.holds Try.pinned (OpenSpec.ofChange poseAppliesSpec)

/-- ITS FALSE NEIGHBOUR: 'it returns false'. Refute it at one input. -/
def poseAppliesWrong : ChangeSpec := { name := "poseApplies", fn := fun _ => fun
  | [d1, d2, d3, d4] => { results := [.lit (.bool false)], args := [d1, d2, d3, d4] }
  | _ => none }
def PoseAppliesWrongFalsely : Prop := poseAppliesRow.holds Try.pinned (OpenSpec.ofChange poseAppliesWrong)

/-- 'armplanlaw5.PoseMonotone': WHATEVER THE INPUT: true; the input reads as it did. -/
def poseMonotoneSpec : ChangeSpec := { name := "poseMonotone", fn := fun _ => fun
  | [d1, d2] => { results := [.lit (.bool true)], args := [d1, d2] }
  | _ => none }
def poseMonotoneRow : OpenClaim := { program := "ytonampcmhhhffaa", sum := "d511b779c07ca93e0a2e515da3e112983fb46853078df64f81bb6f4555ddbb36", func := "armplan/armplanlaw5.PoseMonotone", spec := "poseMonotone", unfollowed := true, recurses := true, apart := false }
def PoseMonotoneSaid : Prop := poseMonotoneRow.holds Try.pinned (OpenSpec.ofChange poseMonotoneSpec)

/-- ITS FALSE NEIGHBOUR: 'it returns false'. Refute it at one input. -/
def poseMonotoneWrong : ChangeSpec := { name := "poseMonotone", fn := fun _ => fun
  | [d1, d2] => { results := [.lit (.bool false)], args := [d1, d2] }
  | _ => none }
def PoseMonotoneWrongFalsely : Prop := poseMonotoneRow.holds Try.pinned (OpenSpec.ofChange poseMonotoneWrong)

/-- 'armplanlaw5.PoseInverse': WHATEVER THE INPUT: true; the input reads as it did. -/
def poseInverseSpec : ChangeSpec := { name := "poseInverse", fn := fun _ => fun
  | [d1, d2] => { results := [.lit (.bool true)], args := [d1, d2] }
  | _ => none }
def poseInverseRow : OpenClaim := { program := "ytonampcmhhhffaa", sum := "d511b779c07ca93e0a2e515da3e112983fb46853078df64f81bb6f4555ddbb36", func := "armplan/armplanlaw5.PoseInverse", spec := "poseInverse", unfollowed := true, recurses := true, apart := false }
def PoseInverseSaid : Prop := poseInverseRow.holds Try.pinned (OpenSpec.ofChange poseInverseSpec)

/-- ITS FALSE NEIGHBOUR: 'it returns false'. Refute it at one input. -/
def poseInverseWrong : ChangeSpec := { name := "poseInverse", fn := fun _ => fun
  | [d1, d2] => { results := [.lit (.bool false)], args := [d1, d2] }
  | _ => none }
def PoseInverseWrongFalsely : Prop := poseInverseRow.holds Try.pinned (OpenSpec.ofChange poseInverseWrong)

/-- 'armplanlaw11.KinematicsLocal': WHATEVER THE INPUT: true; the input reads as it did. -/
def kinematicsLocalSpec : ChangeSpec := { name := "kinematicsLocal", fn := fun _ => fun
  | [d1, d2, d3, d4, d5] => { results := [.lit (.bool true)], args := [d1, d2, d3, d4, d5] }
  | _ => none }
def kinematicsLocalRow : OpenClaim := { program := "ytonampcmhhhffaa", sum := "d511b779c07ca93e0a2e515da3e112983fb46853078df64f81bb6f4555ddbb36", func := "armplan/armplanlaw11.KinematicsLocal", spec := "kinematicsLocal", unfollowed := true, recurses := true, apart := false }
def KinematicsLocalSaid : Prop := kinematicsLocalRow.holds Try.pinned (OpenSpec.ofChange kinematicsLocalSpec)

/-- ITS FALSE NEIGHBOUR: 'it returns false'. Refute it at one input. -/
def kinematicsLocalWrong : ChangeSpec := { name := "kinematicsLocal", fn := fun _ => fun
  | [d1, d2, d3, d4, d5] => { results := [.lit (.bool false)], args := [d1, d2, d3, d4, d5] }
  | _ => none }
def KinematicsLocalWrongFalsely : Prop := kinematicsLocalRow.holds Try.pinned (OpenSpec.ofChange kinematicsLocalWrong)

/-- 'armplanlaw11.KinematicsQuarters': WHATEVER THE INPUT: true; the input reads as it did. -/
def kinematicsQuartersSpec : ChangeSpec := { name := "kinematicsQuarters", fn := fun _ => fun
  | [d1, d2] => { results := [.lit (.bool true)], args := [d1, d2] }
  | _ => none }
def kinematicsQuartersRow : OpenClaim := { program := "ytonampcmhhhffaa", sum := "d511b779c07ca93e0a2e515da3e112983fb46853078df64f81bb6f4555ddbb36", func := "armplan/armplanlaw11.KinematicsQuarters", spec := "kinematicsQuarters", unfollowed := true, recurses := true, apart := false }
def KinematicsQuartersSaid : Prop := kinematicsQuartersRow.holds Try.pinned (OpenSpec.ofChange kinematicsQuartersSpec)

/-- ITS FALSE NEIGHBOUR: 'it returns false'. Refute it at one input. -/
def kinematicsQuartersWrong : ChangeSpec := { name := "kinematicsQuarters", fn := fun _ => fun
  | [d1, d2] => { results := [.lit (.bool false)], args := [d1, d2] }
  | _ => none }
def KinematicsQuartersWrongFalsely : Prop := kinematicsQuartersRow.holds Try.pinned (OpenSpec.ofChange kinematicsQuartersWrong)

/-- 'armplanlaw11.KinematicsPlaced': WHATEVER THE INPUT: true; the input reads as it did. -/
def kinematicsPlacedSpec : ChangeSpec := { name := "kinematicsPlaced", fn := fun _ => fun
  | [d1, d2] => { results := [.lit (.bool true)], args := [d1, d2] }
  | _ => none }
def kinematicsPlacedRow : OpenClaim := { program := "ytonampcmhhhffaa", sum := "d511b779c07ca93e0a2e515da3e112983fb46853078df64f81bb6f4555ddbb36", func := "armplan/armplanlaw11.KinematicsPlaced", spec := "kinematicsPlaced", unfollowed := true, recurses := true, apart := false }
def KinematicsPlacedSaid : Prop := kinematicsPlacedRow.holds Try.pinned (OpenSpec.ofChange kinematicsPlacedSpec)

/-- ITS FALSE NEIGHBOUR: 'it returns false'. Refute it at one input. -/
def kinematicsPlacedWrong : ChangeSpec := { name := "kinematicsPlaced", fn := fun _ => fun
  | [d1, d2] => { results := [.lit (.bool false)], args := [d1, d2] }
  | _ => none }
def KinematicsPlacedWrongFalsely : Prop := kinematicsPlacedRow.holds Try.pinned (OpenSpec.ofChange kinematicsPlacedWrong)

/- THE SECOND FORM. 'bulk': how many values and letters a reading holds, each counted each time it is reached (what is shared counts as often as it is met; a slice's spare places count too). A statement '..UptoSaid' is the law's where the arguments, and the package variables that the reading takes, are together of bulk at most 1048576: NARROWER than '..Said'. Prove '..Said' where nothing that the law and all that it calls make is longer than what came in: it says more and counts as full. Else prove '..UptoSaid'. A law counts once. -/
mutual
def uptoBulk {H : Type} : DataW H → Nat
  | .lit (.string bytes) => bytes.length + 1
  | .lit _ => 1
  | .nil => 1
  | .ptr d => uptoBulk d + 1
  | .slice elems spare => uptoBulkAll elems + uptoBulkAll spare + 1
  | .agg parts => uptoBulkAll parts + 1
  | .iface _ d => uptoBulk d + 1
  | .map entries => uptoBulkEntries entries + 1
  | .held _ => 1
def uptoBulkAll {H : Type} : List (DataW H) → Nat
  | [] => 0
  | d :: r => uptoBulk d + uptoBulkAll r
def uptoBulkEntries {H : Type} : List (Lit × DataW H) → Nat
  | [] => 0
  | x :: r => uptoBulkEntry x + uptoBulkEntries r
def uptoBulkEntry {H : Type} : Lit × DataW H → Nat
  | (.string bytes, d) => bytes.length + uptoBulk d + 1
  | (_, d) => uptoBulk d + 1
 end
def uptoSmall : (H : Type) → List (DataW H) → Bool := fun _ ds => decide (uptoBulkAll ds ≤ 1048576)
def OpenSpec.upto (s : _root_.Go.ChangeSpec) : _root_.Go.OpenSpec := { _root_.Go.OpenSpec.ofChange s with cond := some uptoSmall }

/-- 'armplanlaw4.MatrixTurns', WHERE WHAT IT READS IS OF BULK AT MOST 1048576: true; the input reads as it did. -/
def matrixTurnsUptoRow : OpenClaim := { program := "ytonampcmhhhffaa", sum := "d511b779c07ca93e0a2e515da3e112983fb46853078df64f81bb6f4555ddbb36", func := "armplan/armplanlaw4.MatrixTurns", spec := "matrixTurns", unfollowed := true, recurses := true, apart := false, narrowed := true }
def MatrixTurnsUptoSaid : Prop := matrixTurnsUptoRow.holds Try.pinned (OpenSpec.upto matrixTurnsSpec)

/-- 'armplanlaw4.MatrixLength', WHERE WHAT IT READS IS OF BULK AT MOST 1048576: true; the input reads as it did. -/
def matrixLengthUptoRow : OpenClaim := { program := "ytonampcmhhhffaa", sum := "d511b779c07ca93e0a2e515da3e112983fb46853078df64f81bb6f4555ddbb36", func := "armplan/armplanlaw4.MatrixLength", spec := "matrixLength", unfollowed := true, recurses := true, apart := false, narrowed := true }
def MatrixLengthUptoSaid : Prop := matrixLengthUptoRow.holds Try.pinned (OpenSpec.upto matrixLengthSpec)

/-- 'armplanlaw4.MatrixQuarters', WHERE WHAT IT READS IS OF BULK AT MOST 1048576: true; the input reads as it did. -/
def matrixQuartersUptoRow : OpenClaim := { program := "ytonampcmhhhffaa", sum := "d511b779c07ca93e0a2e515da3e112983fb46853078df64f81bb6f4555ddbb36", func := "armplan/armplanlaw4.MatrixQuarters", spec := "matrixQuarters", unfollowed := true, recurses := true, apart := false, narrowed := true }
def MatrixQuartersUptoSaid : Prop := matrixQuartersUptoRow.holds Try.pinned (OpenSpec.upto matrixQuartersSpec)

/-- 'armplanlaw4.MatrixAdds', WHERE WHAT IT READS IS OF BULK AT MOST 1048576: true; the input reads as it did. -/
def matrixAddsUptoRow : OpenClaim := { program := "ytonampcmhhhffaa", sum := "d511b779c07ca93e0a2e515da3e112983fb46853078df64f81bb6f4555ddbb36", func := "armplan/armplanlaw4.MatrixAdds", spec := "matrixAdds", unfollowed := true, recurses := true, apart := false, narrowed := true }
def MatrixAddsUptoSaid : Prop := matrixAddsUptoRow.holds Try.pinned (OpenSpec.upto matrixAddsSpec)

/-- 'armplanlaw4.MatrixApplies', WHERE WHAT IT READS IS OF BULK AT MOST 1048576: true; the input reads as it did. -/
def matrixAppliesUptoRow : OpenClaim := { program := "ytonampcmhhhffaa", sum := "d511b779c07ca93e0a2e515da3e112983fb46853078df64f81bb6f4555ddbb36", func := "armplan/armplanlaw4.MatrixApplies", spec := "matrixApplies", unfollowed := true, recurses := true, apart := false, narrowed := true }
def MatrixAppliesUptoSaid : Prop := matrixAppliesUptoRow.holds Try.pinned (OpenSpec.upto matrixAppliesSpec)

/-- 'armplanlaw4.MatrixOrthogonal', WHERE WHAT IT READS IS OF BULK AT MOST 1048576: true; the input reads as it did. -/
def matrixOrthogonalUptoRow : OpenClaim := { program := "ytonampcmhhhffaa", sum := "d511b779c07ca93e0a2e515da3e112983fb46853078df64f81bb6f4555ddbb36", func := "armplan/armplanlaw4.MatrixOrthogonal", spec := "matrixOrthogonal", unfollowed := true, recurses := true, apart := false, narrowed := true }
def MatrixOrthogonalUptoSaid : Prop := matrixOrthogonalUptoRow.holds Try.pinned (OpenSpec.upto matrixOrthogonalSpec)

/-- 'armplanlaw4.MatrixComposes', WHERE WHAT IT READS IS OF BULK AT MOST 1048576: true; the input reads as it did. -/
def matrixComposesUptoRow : OpenClaim := { program := "ytonampcmhhhffaa", sum := "d511b779c07ca93e0a2e515da3e112983fb46853078df64f81bb6f4555ddbb36", func := "armplan/armplanlaw4.MatrixComposes", spec := "matrixComposes", unfollowed := true, recurses := true, apart := false, narrowed := true }
def MatrixComposesUptoSaid : Prop := matrixComposesUptoRow.holds Try.pinned (OpenSpec.upto matrixComposesSpec)

/-- 'armplanlaw4.MatrixMonotone', WHERE WHAT IT READS IS OF BULK AT MOST 1048576: true; the input reads as it did. -/
def matrixMonotoneUptoRow : OpenClaim := { program := "ytonampcmhhhffaa", sum := "d511b779c07ca93e0a2e515da3e112983fb46853078df64f81bb6f4555ddbb36", func := "armplan/armplanlaw4.MatrixMonotone", spec := "matrixMonotone", unfollowed := true, recurses := true, apart := false, narrowed := true }
def MatrixMonotoneUptoSaid : Prop := matrixMonotoneUptoRow.holds Try.pinned (OpenSpec.upto matrixMonotoneSpec)

/-- 'armplanlaw5.PoseChain', WHERE WHAT IT READS IS OF BULK AT MOST 1048576: true; the input reads as it did. -/
def poseChainUptoRow : OpenClaim := { program := "ytonampcmhhhffaa", sum := "d511b779c07ca93e0a2e515da3e112983fb46853078df64f81bb6f4555ddbb36", func := "armplan/armplanlaw5.PoseChain", spec := "poseChain", unfollowed := true, recurses := true, apart := false, narrowed := true }
def PoseChainUptoSaid : Prop := poseChainUptoRow.holds Try.pinned (OpenSpec.upto poseChainSpec)

/-- 'armplanlaw5.PoseShifts', WHERE WHAT IT READS IS OF BULK AT MOST 1048576: true; the input reads as it did. -/
def poseShiftsUptoRow : OpenClaim := { program := "ytonampcmhhhffaa", sum := "d511b779c07ca93e0a2e515da3e112983fb46853078df64f81bb6f4555ddbb36", func := "armplan/armplanlaw5.PoseShifts", spec := "poseShifts", unfollowed := true, recurses := true, apart := false, narrowed := true }
def PoseShiftsUptoSaid : Prop := poseShiftsUptoRow.holds Try.pinned (OpenSpec.upto poseShiftsSpec)

/-- 'armplanlaw11.KinematicsJoints', WHERE WHAT IT READS IS OF BULK AT MOST 1048576: true; the input reads as it did. -/
def kinematicsJointsUptoRow : OpenClaim := { program := "ytonampcmhhhffaa", sum := "d511b779c07ca93e0a2e515da3e112983fb46853078df64f81bb6f4555ddbb36", func := "armplan/armplanlaw11.KinematicsJoints", spec := "kinematicsJoints", unfollowed := true, recurses := true, apart := false, narrowed := true }
def KinematicsJointsUptoSaid : Prop := kinematicsJointsUptoRow.holds Try.pinned (OpenSpec.upto kinematicsJointsSpec)

/-- 'armplanlaw5.PoseComposes', WHERE WHAT IT READS IS OF BULK AT MOST 1048576: true; the input reads as it did. -/
def poseComposesUptoRow : OpenClaim := { program := "ytonampcmhhhffaa", sum := "d511b779c07ca93e0a2e515da3e112983fb46853078df64f81bb6f4555ddbb36", func := "armplan/armplanlaw5.PoseComposes", spec := "poseComposes", unfollowed := true, recurses := true, apart := false, narrowed := true }
def PoseComposesUptoSaid : Prop := poseComposesUptoRow.holds Try.pinned (OpenSpec.upto poseComposesSpec)

/-- 'armplanlaw5.PoseNeutral', WHERE WHAT IT READS IS OF BULK AT MOST 1048576: true; the input reads as it did. -/
def poseNeutralUptoRow : OpenClaim := { program := "ytonampcmhhhffaa", sum := "d511b779c07ca93e0a2e515da3e112983fb46853078df64f81bb6f4555ddbb36", func := "armplan/armplanlaw5.PoseNeutral", spec := "poseNeutral", unfollowed := true, recurses := true, apart := false, narrowed := true }
def PoseNeutralUptoSaid : Prop := poseNeutralUptoRow.holds Try.pinned (OpenSpec.upto poseNeutralSpec)

/-- 'armplanlaw5.PoseApplies', WHERE WHAT IT READS IS OF BULK AT MOST 1048576: true; the input reads as it did. -/
def poseAppliesUptoRow : OpenClaim := { program := "ytonampcmhhhffaa", sum := "d511b779c07ca93e0a2e515da3e112983fb46853078df64f81bb6f4555ddbb36", func := "armplan/armplanlaw5.PoseApplies", spec := "poseApplies", unfollowed := true, recurses := true, apart := false, narrowed := true }
def PoseAppliesUptoSaid : Prop := poseAppliesUptoRow.holds Try.pinned (OpenSpec.upto poseAppliesSpec)

/-- 'armplanlaw5.PoseMonotone', WHERE WHAT IT READS IS OF BULK AT MOST 1048576: true; the input reads as it did. -/
def poseMonotoneUptoRow : OpenClaim := { program := "ytonampcmhhhffaa", sum := "d511b779c07ca93e0a2e515da3e112983fb46853078df64f81bb6f4555ddbb36", func := "armplan/armplanlaw5.PoseMonotone", spec := "poseMonotone", unfollowed := true, recurses := true, apart := false, narrowed := true }
def PoseMonotoneUptoSaid : Prop := poseMonotoneUptoRow.holds Try.pinned (OpenSpec.upto poseMonotoneSpec)

/-- 'armplanlaw5.PoseInverse', WHERE WHAT IT READS IS OF BULK AT MOST 1048576: true; the input reads as it did. -/
def poseInverseUptoRow : OpenClaim := { program := "ytonampcmhhhffaa", sum := "d511b779c07ca93e0a2e515da3e112983fb46853078df64f81bb6f4555ddbb36", func := "armplan/armplanlaw5.PoseInverse", spec := "poseInverse", unfollowed := true, recurses := true, apart := false, narrowed := true }
def PoseInverseUptoSaid : Prop := poseInverseUptoRow.holds Try.pinned (OpenSpec.upto poseInverseSpec)

/-- 'armplanlaw11.KinematicsLocal', WHERE WHAT IT READS IS OF BULK AT MOST 1048576: true; the input reads as it did. -/
def kinematicsLocalUptoRow : OpenClaim := { program := "ytonampcmhhhffaa", sum := "d511b779c07ca93e0a2e515da3e112983fb46853078df64f81bb6f4555ddbb36", func := "armplan/armplanlaw11.KinematicsLocal", spec := "kinematicsLocal", unfollowed := true, recurses := true, apart := false, narrowed := true }
def KinematicsLocalUptoSaid : Prop := kinematicsLocalUptoRow.holds Try.pinned (OpenSpec.upto kinematicsLocalSpec)

/-- 'armplanlaw11.KinematicsQuarters', WHERE WHAT IT READS IS OF BULK AT MOST 1048576: true; the input reads as it did. -/
def kinematicsQuartersUptoRow : OpenClaim := { program := "ytonampcmhhhffaa", sum := "d511b779c07ca93e0a2e515da3e112983fb46853078df64f81bb6f4555ddbb36", func := "armplan/armplanlaw11.KinematicsQuarters", spec := "kinematicsQuarters", unfollowed := true, recurses := true, apart := false, narrowed := true }
def KinematicsQuartersUptoSaid : Prop := kinematicsQuartersUptoRow.holds Try.pinned (OpenSpec.upto kinematicsQuartersSpec)

/-- 'armplanlaw11.KinematicsPlaced', WHERE WHAT IT READS IS OF BULK AT MOST 1048576: true; the input reads as it did. -/
def kinematicsPlacedUptoRow : OpenClaim := { program := "ytonampcmhhhffaa", sum := "d511b779c07ca93e0a2e515da3e112983fb46853078df64f81bb6f4555ddbb36", func := "armplan/armplanlaw11.KinematicsPlaced", spec := "kinematicsPlaced", unfollowed := true, recurses := true, apart := false, narrowed := true }
def KinematicsPlacedUptoSaid : Prop := kinematicsPlacedUptoRow.holds Try.pinned (OpenSpec.upto kinematicsPlacedSpec)

end Rows
end Go.Proofs.Ytonampcmhhhffaa

/-
  No cell of these rows narrows 'for every input' (looked for: loops, veiled, ifaces, maps, wideKeys, modest, calm, conditions, laid).
  DERIVED. THE GIVEN ROWS OF THIS SEAT. 2 by the template 'for every input the law returns true; each argument reads behind the call as it read before'; 0 by the template 'total and deterministic' (their statements: YtmffoiemmlcmfaaGreatTotals.lean).
  GIVEN WITH THE SEED: the statements are not yours to turn. If you find one false, say at which input.
  Laid BY PROGRAM, IN A SANDBOX (cutbox-rows.mjs): the forced cells as the released guide's own fill.sh prints them over the translation 513f7590b4308914… (all of the seat's roots in one cut). By AI agents, Wed Nov 11 2026. No macro, syntax, notation, axiom, sorry.
-/
import Derived.Test.YtmffoiemmlcmfaaGreatChecked
import GoSem.Claim
import GoSem.ClaimJoined
import GoSem.ClaimMapViews
import Derived.JoinedTies
import Derived.KernelRfl
namespace Go.Proofs.YtmffoiemmlcmfaaGreat
/- THE CELL 'sum', in the pinned program and in every row, IS THE sha256 OF THE DUMP (.gsa) THAT YtmffoiemmlcmfaaGreatProg.lean LOADS. Nothing in Lean hashes anything: it is a label: what it is worth is what the hold of that sum in a sandbox is worth. -/
noncomputable def Tryz.pinned : Pinned := { name := "ytmffoiemmlcmfaagreat", sum := "513f7590b430891422bdc1060061ac33fbfe3c401159b6698c3d55ce34a2b77b", checked := Tryz.checked }
namespace Rows
def none {H : Type} : Left H := { results := [], args := [] }

/-- 'armplanlaw33.ProjectExtends': WHATEVER THE INPUT: true; the input reads as it did. -/
def projectExtendsSpec : ChangeSpec := { name := "projectExtends", fn := fun _ => fun
  | [d1, d2, d3, d4, d5, d6, d7, d8, d9, d10, d11, d12] => { results := [.lit (.bool true)], args := [d1, d2, d3, d4, d5, d6, d7, d8, d9, d10, d11, d12] }
  | _ => none }
def projectExtendsRow : OpenClaim := { program := "ytmffoiemmlcmfaagreat", sum := "513f7590b430891422bdc1060061ac33fbfe3c401159b6698c3d55ce34a2b77b", func := "armplan/armplanlaw33.ProjectExtends", spec := "projectExtends", unfollowed := true, recurses := true, apart := false }
def ProjectExtendsSaid : Prop := projectExtendsRow.holds Tryz.pinned (OpenSpec.ofChange projectExtendsSpec)

/-- ITS FALSE NEIGHBOUR: 'it returns false'. Refute it at one input. -/
def projectExtendsWrong : ChangeSpec := { name := "projectExtends", fn := fun _ => fun
  | [d1, d2, d3, d4, d5, d6, d7, d8, d9, d10, d11, d12] => { results := [.lit (.bool false)], args := [d1, d2, d3, d4, d5, d6, d7, d8, d9, d10, d11, d12] }
  | _ => none }
def ProjectExtendsWrongFalsely : Prop := projectExtendsRow.holds Tryz.pinned (OpenSpec.ofChange projectExtendsWrong)

/-- 'armplanlaw33.ProjectNears': WHATEVER THE INPUT: true; the input reads as it did. -/
def projectNearsSpec : ChangeSpec := { name := "projectNears", fn := fun _ => fun
  | [d1, d2, d3, d4, d5, d6, d7] => { results := [.lit (.bool true)], args := [d1, d2, d3, d4, d5, d6, d7] }
  | _ => none }
def projectNearsRow : OpenClaim := { program := "ytmffoiemmlcmfaagreat", sum := "513f7590b430891422bdc1060061ac33fbfe3c401159b6698c3d55ce34a2b77b", func := "armplan/armplanlaw33.ProjectNears", spec := "projectNears", unfollowed := true, recurses := true, apart := false }
def ProjectNearsSaid : Prop := projectNearsRow.holds Tryz.pinned (OpenSpec.ofChange projectNearsSpec)

/-- ITS FALSE NEIGHBOUR: 'it returns false'. Refute it at one input. -/
def projectNearsWrong : ChangeSpec := { name := "projectNears", fn := fun _ => fun
  | [d1, d2, d3, d4, d5, d6, d7] => { results := [.lit (.bool false)], args := [d1, d2, d3, d4, d5, d6, d7] }
  | _ => none }
def ProjectNearsWrongFalsely : Prop := projectNearsRow.holds Tryz.pinned (OpenSpec.ofChange projectNearsWrong)

/- THE SECOND FORM. 'bulk': how many values and letters a reading holds, each counted each time it is reached (what is shared counts as often as it is met; a slice's spare places count too). A statement '..UptoSaid' is the law's where the arguments, and the package variables that the reading takes, are together of bulk at most 1048576: NARROWER than '..Said'. Prove '..Said' where nothing that the law and all that it calls make is longer than what came in: it says more and counts as full. Else prove '..UptoSaid'. A law counts once. -/
mutual
def uptoBulk {H : Type} : DataW H → Nat
  | .lit (.string bytes) => bytes.length + 1
  | .lit _ => 1
  | .nil => 1
  | .ptr d => uptoBulk d + 1
  | .slice elems spare => uptoBulkAll elems + uptoBulkAll spare + 1
  | .agg parts => uptoBulkAll parts + 1
  | .iface _ d => uptoBulk d + 1
  | .map entries => uptoBulkEntries entries + 1
  | .held _ => 1
def uptoBulkAll {H : Type} : List (DataW H) → Nat
  | [] => 0
  | d :: r => uptoBulk d + uptoBulkAll r
def uptoBulkEntries {H : Type} : List (Lit × DataW H) → Nat
  | [] => 0
  | x :: r => uptoBulkEntry x + uptoBulkEntries r
def uptoBulkEntry {H : Type} : Lit × DataW H → Nat
  | (.string bytes, d) => bytes.length + uptoBulk d + 1
  | (_, d) => uptoBulk d + 1
 end
def uptoSmall : (H : Type) → List (DataW H) → Bool := fun _ ds => decide (uptoBulkAll ds ≤ 1048576)
def OpenSpec.upto (s : _root_.Go.ChangeSpec) : _root_.Go.OpenSpec := { _root_.Go.OpenSpec.ofChange s with cond := some uptoSmall }

/-- 'armplanlaw33.ProjectExtends', WHERE WHAT IT READS IS OF BULK AT MOST 1048576: true; the input reads as it did. -/
def projectExtendsUptoRow : OpenClaim := { program := "ytmffoiemmlcmfaagreat", sum := "513f7590b430891422bdc1060061ac33fbfe3c401159b6698c3d55ce34a2b77b", func := "armplan/armplanlaw33.ProjectExtends", spec := "projectExtends", unfollowed := true, recurses := true, apart := false, narrowed := true }
def ProjectExtendsUptoSaid : Prop := projectExtendsUptoRow.holds Tryz.pinned (OpenSpec.upto projectExtendsSpec)

/-- 'armplanlaw33.ProjectNears', WHERE WHAT IT READS IS OF BULK AT MOST 1048576: true; the input reads as it did. -/
def projectNearsUptoRow : OpenClaim := { program := "ytmffoiemmlcmfaagreat", sum := "513f7590b430891422bdc1060061ac33fbfe3c401159b6698c3d55ce34a2b77b", func := "armplan/armplanlaw33.ProjectNears", spec := "projectNears", unfollowed := true, recurses := true, apart := false, narrowed := true }
def ProjectNearsUptoSaid : Prop := projectNearsUptoRow.holds Tryz.pinned (OpenSpec.upto projectNearsSpec)

end Rows
end Go.Proofs.YtmffoiemmlcmfaaGreat

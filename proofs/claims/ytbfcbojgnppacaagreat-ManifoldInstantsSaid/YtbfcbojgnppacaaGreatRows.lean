/-
  No cell of these rows narrows 'for every input' (looked for: loops, veiled, ifaces, maps, wideKeys, modest, calm, conditions, laid).
  DERIVED. THE GIVEN ROWS OF THIS SEAT. 3 by the template 'for every input the law returns true; each argument reads behind the call as it read before'; 0 by the template 'total and deterministic' (their statements: YtbfcbojgnppacaaGreatTotals.lean).
  GIVEN WITH THE SEED: the statements are not yours to turn. If you find one false, say at which input.
  Laid BY PROGRAM, IN A SANDBOX (cutbox-rows.mjs): the forced cells as the released guide's own fill.sh prints them over the translation ef4e479e67ab0544… (all of the seat's roots in one cut). By AI agents, Wed Nov 11 2026. No macro, syntax, notation, axiom, sorry.
-/
import Derived.Test.YtbfcbojgnppacaaGreatChecked
import GoSem.Claim
import GoSem.ClaimJoined
import GoSem.ClaimMapViews
import Derived.JoinedTies
import Derived.KernelRfl
namespace Go.Proofs.YtbfcbojgnppacaaGreat
/- THE CELL 'sum', in the pinned program and in every row, IS THE sha256 OF THE DUMP (.gsa) THAT YtbfcbojgnppacaaGreatProg.lean LOADS. Nothing in Lean hashes anything: it is a label: what it is worth is what the hold of that sum in a sandbox is worth. -/
noncomputable def Tryz.pinned : Pinned := { name := "ytbfcbojgnppacaagreat", sum := "ef4e479e67ab0544bd134eab8af3fa2fd7d6584a6cd80b2deca497aa44f7fa4e", checked := Tryz.checked }
namespace Rows
def none {H : Type} : Left H := { results := [], args := [] }

/-- 'armplanlaw32.ManifoldProves': WHATEVER THE INPUT: true; the input reads as it did. -/
def manifoldProvesSpec : ChangeSpec := { name := "manifoldProves", fn := fun _ => fun
  | [d1, d2, d3, d4, d5, d6, d7, d8, d9, d10] => { results := [.lit (.bool true)], args := [d1, d2, d3, d4, d5, d6, d7, d8, d9, d10] }
  | _ => none }
def manifoldProvesRow : OpenClaim := { program := "ytbfcbojgnppacaagreat", sum := "ef4e479e67ab0544bd134eab8af3fa2fd7d6584a6cd80b2deca497aa44f7fa4e", func := "armplan/armplanlaw32.ManifoldProves", spec := "manifoldProves", unfollowed := true, recurses := true, apart := false }
def ManifoldProvesSaid : Prop := manifoldProvesRow.holds Tryz.pinned (OpenSpec.ofChange manifoldProvesSpec)

/-- ITS FALSE NEIGHBOUR: 'it returns false'. Refute it at one input. -/
def manifoldProvesWrong : ChangeSpec := { name := "manifoldProves", fn := fun _ => fun
  | [d1, d2, d3, d4, d5, d6, d7, d8, d9, d10] => { results := [.lit (.bool false)], args := [d1, d2, d3, d4, d5, d6, d7, d8, d9, d10] }
  | _ => none }
def ManifoldProvesWrongFalsely : Prop := manifoldProvesRow.holds Tryz.pinned (OpenSpec.ofChange manifoldProvesWrong)

/-- 'armplanlaw32.ManifoldDecides': WHATEVER THE INPUT: true; the input reads as it did. -/
def manifoldDecidesSpec : ChangeSpec := { name := "manifoldDecides", fn := fun _ => fun
  | [d1, d2, d3, d4, d5, d6, d7] => { results := [.lit (.bool true)], args := [d1, d2, d3, d4, d5, d6, d7] }
  | _ => none }
def manifoldDecidesRow : OpenClaim := { program := "ytbfcbojgnppacaagreat", sum := "ef4e479e67ab0544bd134eab8af3fa2fd7d6584a6cd80b2deca497aa44f7fa4e", func := "armplan/armplanlaw32.ManifoldDecides", spec := "manifoldDecides", unfollowed := true, recurses := true, apart := false }
def ManifoldDecidesSaid : Prop := manifoldDecidesRow.holds Tryz.pinned (OpenSpec.ofChange manifoldDecidesSpec)

/-- ITS FALSE NEIGHBOUR: 'it returns false'. Refute it at one input. -/
def manifoldDecidesWrong : ChangeSpec := { name := "manifoldDecides", fn := fun _ => fun
  | [d1, d2, d3, d4, d5, d6, d7] => { results := [.lit (.bool false)], args := [d1, d2, d3, d4, d5, d6, d7] }
  | _ => none }
def ManifoldDecidesWrongFalsely : Prop := manifoldDecidesRow.holds Tryz.pinned (OpenSpec.ofChange manifoldDecidesWrong)

/-- 'armplanlaw32.ManifoldInstants': WHATEVER THE INPUT: true; the input reads as it did. -/
def manifoldInstantsSpec : ChangeSpec := { name := "manifoldInstants", fn := fun _ => fun
  | [d1, d2, d3, d4, d5, d6, d7] => { results := [.lit (.bool true)], args := [d1, d2, d3, d4, d5, d6, d7] }
  | _ => none }
def manifoldInstantsRow : OpenClaim := { program := "ytbfcbojgnppacaagreat", sum := "ef4e479e67ab0544bd134eab8af3fa2fd7d6584a6cd80b2deca497aa44f7fa4e", func := "armplan/armplanlaw32.ManifoldInstants", spec := "manifoldInstants", unfollowed := true, recurses := true, apart := false }
def ManifoldInstantsSaid : Prop := manifoldInstantsRow.holds Tryz.pinned (OpenSpec.ofChange manifoldInstantsSpec)

/-- ITS FALSE NEIGHBOUR: 'it returns false'. Refute it at one input. -/
def manifoldInstantsWrong : ChangeSpec := { name := "manifoldInstants", fn := fun _ => fun
  | [d1, d2, d3, d4, d5, d6, d7] => { results := [.lit (.bool false)], args := [d1, d2, d3, d4, d5, d6, d7] }
  | _ => none }
def ManifoldInstantsWrongFalsely : Prop := manifoldInstantsRow.holds Tryz.pinned (OpenSpec.ofChange manifoldInstantsWrong)

/- THE SECOND FORM. 'bulk': how many values and letters a reading holds, each counted each time it is reached (what is shared counts as often as it is met; a slice's spare places count too). A statement '..UptoSaid' is the law's where the arguments, and the package variables that the reading takes, are together of bulk at most 1048576: NARROWER than '..Said'. Prove '..Said' where nothing that the law and all that it calls make is longer than what came in: it says more and counts as full. Else prove '..UptoSaid'. A law counts once. -/
mutual
def uptoBulk {H : Type} : DataW H → Nat
  | .lit (.string bytes) => bytes.length + 1
  | .lit _ => 1
  | .nil => 1
  | .ptr d => uptoBulk d + 1
  | .slice elems spare => uptoBulkAll elems + uptoBulkAll spare + 1
  | .agg parts => uptoBulkAll parts + 1
  | .iface _ d => uptoBulk d + 1
  | .map entries => uptoBulkEntries entries + 1
  | .held _ => 1
def uptoBulkAll {H : Type} : List (DataW H) → Nat
  | [] => 0
  | d :: r => uptoBulk d + uptoBulkAll r
def uptoBulkEntries {H : Type} : List (Lit × DataW H) → Nat
  | [] => 0
  | x :: r => uptoBulkEntry x + uptoBulkEntries r
def uptoBulkEntry {H : Type} : Lit × DataW H → Nat
  | (.string bytes, d) => bytes.length + uptoBulk d + 1
  | (_, d) => uptoBulk d + 1
 end
def uptoSmall : (H : Type) → List (DataW H) → Bool := fun _ ds => decide (uptoBulkAll ds ≤ 1048576)
def OpenSpec.upto (s : _root_.Go.ChangeSpec) : _root_.Go.OpenSpec := { _root_.Go.OpenSpec.ofChange s with cond := some uptoSmall }

/-- 'armplanlaw32.ManifoldProves', WHERE WHAT IT READS IS OF BULK AT MOST 1048576: true; the input reads as it did. -/
def manifoldProvesUptoRow : OpenClaim := { program := "ytbfcbojgnppacaagreat", sum := "ef4e479e67ab0544bd134eab8af3fa2fd7d6584a6cd80b2deca497aa44f7fa4e", func := "armplan/armplanlaw32.ManifoldProves", spec := "manifoldProves", unfollowed := true, recurses := true, apart := false, narrowed := true }
def ManifoldProvesUptoSaid : Prop := manifoldProvesUptoRow.holds Tryz.pinned (OpenSpec.upto manifoldProvesSpec)

/-- 'armplanlaw32.ManifoldDecides', WHERE WHAT IT READS IS OF BULK AT MOST 1048576: true; the input reads as it did. -/
def manifoldDecidesUptoRow : OpenClaim := { program := "ytbfcbojgnppacaagreat", sum := "ef4e479e67ab0544bd134eab8af3fa2fd7d6584a6cd80b2deca497aa44f7fa4e", func := "armplan/armplanlaw32.ManifoldDecides", spec := "manifoldDecides", unfollowed := true, recurses := true, apart := false, narrowed := true }
def ManifoldDecidesUptoSaid : Prop := manifoldDecidesUptoRow.holds Tryz.pinned (OpenSpec.upto manifoldDecidesSpec)

/-- 'armplanlaw32.ManifoldInstants', WHERE WHAT IT READS IS OF BULK AT MOST 1048576: true; the input reads as it did. -/
def manifoldInstantsUptoRow : OpenClaim := { program := "ytbfcbojgnppacaagreat", sum := "ef4e479e67ab0544bd134eab8af3fa2fd7d6584a6cd80b2deca497aa44f7fa4e", func := "armplan/armplanlaw32.ManifoldInstants", spec := "manifoldInstants", unfollowed := true, recurses := true, apart := false, narrowed := true }
def ManifoldInstantsUptoSaid : Prop := manifoldInstantsUptoRow.holds Tryz.pinned (OpenSpec.upto manifoldInstantsSpec)

end Rows
end Go.Proofs.YtbfcbojgnppacaaGreat

/-
  No cell of these rows narrows 'for every input' (looked for: loops, veiled, ifaces, maps, wideKeys, modest, calm, conditions, laid).
  DERIVED. THE GIVEN ROWS OF THIS SEAT. 6 by the template 'for every input the law returns true; each argument reads behind the call as it read before'; 0 by the template 'total and deterministic' (their statements: YtglkkhpdbfacfaaTotals.lean).
  GIVEN WITH THE SEED: the statements are not yours to turn. If you find one false, say at which input.
  Laid BY PROGRAM, IN A SANDBOX (cutbox-rows.mjs): the forced cells as the released guide's own fill.sh prints them over the translation 3065c8ab147ff16d… (all of the seat's roots in one cut). By AI agents, Wed Nov 11 2026. No macro, syntax, notation, axiom, sorry.
-/
import Derived.Test.YtglkkhpdbfacfaaChecked
import GoSem.Claim
import GoSem.ClaimJoined
import GoSem.ClaimMapViews
import Derived.JoinedTies
import Derived.KernelRfl
namespace Go.Proofs.Ytglkkhpdbfacfaa
/- THE CELL 'sum', in the pinned program and in every row, IS THE sha256 OF THE DUMP (.gsa) THAT YtglkkhpdbfacfaaProg.lean LOADS. Nothing in Lean hashes anything: it is a label: what it is worth is what the hold of that sum in a sandbox is worth. -/
noncomputable def Try.pinned : Pinned := { name := "ytglkkhpdbfacfaa", sum := "3065c8ab147ff16d9df9e2394446b77e186c208335f183422663aa2d819a0e9d", checked := Try.checked }
namespace Rows
def none {H : Type} : Left H := { results := [], args := [] }

/-- 'armplanlaw27.BoundPotentials': WHATEVER THE INPUT: true; the input reads as it did. -/
def boundPotentialsSpec : ChangeSpec := { name := "boundPotentials", fn := fun _ => fun
  | [d1, d2, d3, d4, d5, d6, d7, d8] => { results := [.lit (.bool true)], args := [d1, d2, d3, d4, d5, d6, d7, d8] }
  | _ => none }
def boundPotentialsRow : OpenClaim := { program := "ytglkkhpdbfacfaa", sum := "3065c8ab147ff16d9df9e2394446b77e186c208335f183422663aa2d819a0e9d", func := "armplan/armplanlaw27.BoundPotentials", spec := "boundPotentials", unfollowed := true, recurses := true, apart := false }
def BoundPotentialsSaid : Prop := boundPotentialsRow.holds Try.pinned (OpenSpec.ofChange boundPotentialsSpec)

/-- ITS FALSE NEIGHBOUR: 'it returns false'. Refute it at one input. -/
def boundPotentialsWrong : ChangeSpec := { name := "boundPotentials", fn := fun _ => fun
  | [d1, d2, d3, d4, d5, d6, d7, d8] => { results := [.lit (.bool false)], args := [d1, d2, d3, d4, d5, d6, d7, d8] }
  | _ => none }
def BoundPotentialsWrongFalsely : Prop := boundPotentialsRow.holds Try.pinned (OpenSpec.ofChange boundPotentialsWrong)

/-- 'armplanlaw27.BoundRatios': WHATEVER THE INPUT: true; the input reads as it did. -/
def boundRatiosSpec : ChangeSpec := { name := "boundRatios", fn := fun _ => fun
  | [d1, d2, d3, d4, d5] => { results := [.lit (.bool true)], args := [d1, d2, d3, d4, d5] }
  | _ => none }
def boundRatiosRow : OpenClaim := { program := "ytglkkhpdbfacfaa", sum := "3065c8ab147ff16d9df9e2394446b77e186c208335f183422663aa2d819a0e9d", func := "armplan/armplanlaw27.BoundRatios", spec := "boundRatios", unfollowed := true, recurses := true, apart := false }
def BoundRatiosSaid : Prop := boundRatiosRow.holds Try.pinned (OpenSpec.ofChange boundRatiosSpec)

/-- ITS FALSE NEIGHBOUR: 'it returns false'. Refute it at one input. -/
def boundRatiosWrong : ChangeSpec := { name := "boundRatios", fn := fun _ => fun
  | [d1, d2, d3, d4, d5] => { results := [.lit (.bool false)], args := [d1, d2, d3, d4, d5] }
  | _ => none }
def BoundRatiosWrongFalsely : Prop := boundRatiosRow.holds Try.pinned (OpenSpec.ofChange boundRatiosWrong)

/-- 'armplanlaw27.BoundProves': WHATEVER THE INPUT: true; the input reads as it did. -/
def boundProvesSpec : ChangeSpec := { name := "boundProves", fn := fun _ => fun
  | [d1, d2, d3, d4, d5, d6, d7] => { results := [.lit (.bool true)], args := [d1, d2, d3, d4, d5, d6, d7] }
  | _ => none }
def boundProvesRow : OpenClaim := { program := "ytglkkhpdbfacfaa", sum := "3065c8ab147ff16d9df9e2394446b77e186c208335f183422663aa2d819a0e9d", func := "armplan/armplanlaw27.BoundProves", spec := "boundProves", unfollowed := true, recurses := true, apart := false }
def BoundProvesSaid : Prop := boundProvesRow.holds Try.pinned (OpenSpec.ofChange boundProvesSpec)

/-- ITS FALSE NEIGHBOUR: 'it returns false'. Refute it at one input. -/
def boundProvesWrong : ChangeSpec := { name := "boundProves", fn := fun _ => fun
  | [d1, d2, d3, d4, d5, d6, d7] => { results := [.lit (.bool false)], args := [d1, d2, d3, d4, d5, d6, d7] }
  | _ => none }
def BoundProvesWrongFalsely : Prop := boundProvesRow.holds Try.pinned (OpenSpec.ofChange boundProvesWrong)

/-- 'armplanlaw27.BoundReduced': WHATEVER THE INPUT: true; the input reads as it did. -/
def boundReducedSpec : ChangeSpec := { name := "boundReduced", fn := fun _ => fun
  | [d1, d2] => { results := [.lit (.bool true)], args := [d1, d2] }
  | _ => none }
def boundReducedRow : OpenClaim := { program := "ytglkkhpdbfacfaa", sum := "3065c8ab147ff16d9df9e2394446b77e186c208335f183422663aa2d819a0e9d", func := "armplan/armplanlaw27.BoundReduced", spec := "boundReduced", unfollowed := true, recurses := true, apart := false }
def BoundReducedSaid : Prop := boundReducedRow.holds Try.pinned (OpenSpec.ofChange boundReducedSpec)

/-- ITS FALSE NEIGHBOUR: 'it returns false'. Refute it at one input. -/
def boundReducedWrong : ChangeSpec := { name := "boundReduced", fn := fun _ => fun
  | [d1, d2] => { results := [.lit (.bool false)], args := [d1, d2] }
  | _ => none }
def BoundReducedWrongFalsely : Prop := boundReducedRow.holds Try.pinned (OpenSpec.ofChange boundReducedWrong)

/-- 'armplanlaw27.BoundSeparates': WHATEVER THE INPUT: true; the input reads as it did. -/
def boundSeparatesSpec : ChangeSpec := { name := "boundSeparates", fn := fun _ => fun
  | [d1, d2, d3, d4, d5, d6] => { results := [.lit (.bool true)], args := [d1, d2, d3, d4, d5, d6] }
  | _ => none }
def boundSeparatesRow : OpenClaim := { program := "ytglkkhpdbfacfaa", sum := "3065c8ab147ff16d9df9e2394446b77e186c208335f183422663aa2d819a0e9d", func := "armplan/armplanlaw27.BoundSeparates", spec := "boundSeparates", unfollowed := true, recurses := true, apart := false }
def BoundSeparatesSaid : Prop := boundSeparatesRow.holds Try.pinned (OpenSpec.ofChange boundSeparatesSpec)

/-- ITS FALSE NEIGHBOUR: 'it returns false'. Refute it at one input. -/
def boundSeparatesWrong : ChangeSpec := { name := "boundSeparates", fn := fun _ => fun
  | [d1, d2, d3, d4, d5, d6] => { results := [.lit (.bool false)], args := [d1, d2, d3, d4, d5, d6] }
  | _ => none }
def BoundSeparatesWrongFalsely : Prop := boundSeparatesRow.holds Try.pinned (OpenSpec.ofChange boundSeparatesWrong)

/-- 'armplanlaw27.BoundEither': WHATEVER THE INPUT: true; the input reads as it did. -/
def boundEitherSpec : ChangeSpec := { name := "boundEither", fn := fun _ => fun
  | [d1, d2, d3] => { results := [.lit (.bool true)], args := [d1, d2, d3] }
  | _ => none }
def boundEitherRow : OpenClaim := { program := "ytglkkhpdbfacfaa", sum := "3065c8ab147ff16d9df9e2394446b77e186c208335f183422663aa2d819a0e9d", func := "armplan/armplanlaw27.BoundEither", spec := "boundEither", unfollowed := true, recurses := true, apart := false }
def BoundEitherSaid : Prop := boundEitherRow.holds Try.pinned (OpenSpec.ofChange boundEitherSpec)

/-- ITS FALSE NEIGHBOUR: 'it returns false'. Refute it at one input. -/
def boundEitherWrong : ChangeSpec := { name := "boundEither", fn := fun _ => fun
  | [d1, d2, d3] => { results := [.lit (.bool false)], args := [d1, d2, d3] }
  | _ => none }
def BoundEitherWrongFalsely : Prop := boundEitherRow.holds Try.pinned (OpenSpec.ofChange boundEitherWrong)

/- THE SECOND FORM. 'bulk': how many values and letters a reading holds, each counted each time it is reached (what is shared counts as often as it is met; a slice's spare places count too). A statement '..UptoSaid' is the law's where the arguments, and the package variables that the reading takes, are together of bulk at most 1048576: NARROWER than '..Said'. Prove '..Said' where nothing that the law and all that it calls make is longer than what came in: it says more and counts as full. Else prove '..UptoSaid'. A law counts once. -/
mutual
def uptoBulk {H : Type} : DataW H → Nat
  | .lit (.string bytes) => bytes.length + 1
  | .lit _ => 1
  | .nil => 1
  | .ptr d => uptoBulk d + 1
  | .slice elems spare => uptoBulkAll elems + uptoBulkAll spare + 1
  | .agg parts => uptoBulkAll parts + 1
  | .iface _ d => uptoBulk d + 1
  | .map entries => uptoBulkEntries entries + 1
  | .held _ => 1
def uptoBulkAll {H : Type} : List (DataW H) → Nat
  | [] => 0
  | d :: r => uptoBulk d + uptoBulkAll r
def uptoBulkEntries {H : Type} : List (Lit × DataW H) → Nat
  | [] => 0
  | x :: r => uptoBulkEntry x + uptoBulkEntries r
def uptoBulkEntry {H : Type} : Lit × DataW H → Nat
  | (.string bytes, d) => bytes.length + uptoBulk d + 1
  | (_, d) => uptoBulk d + 1
 end
def uptoSmall : (H : Type) → List (DataW H) → Bool := fun _ ds => decide (uptoBulkAll ds ≤ 1048576)
def OpenSpec.upto (s : _root_.Go.ChangeSpec) : _root_.Go.OpenSpec := { _root_.Go.OpenSpec.ofChange s with cond := some uptoSmall }

/-- 'armplanlaw27.BoundPotentials', WHERE WHAT IT READS IS OF BULK AT MOST 1048576: true; the input reads as it did. -/
def boundPotentialsUptoRow : OpenClaim := { program := "ytglkkhpdbfacfaa", sum := "3065c8ab147ff16d9df9e2394446b77e186c208335f183422663aa2d819a0e9d", func := "armplan/armplanlaw27.BoundPotentials", spec := "boundPotentials", unfollowed := true, recurses := true, apart := false, narrowed := true }
def BoundPotentialsUptoSaid : Prop := boundPotentialsUptoRow.holds Try.pinned (OpenSpec.upto boundPotentialsSpec)

/-- 'armplanlaw27.BoundRatios', WHERE WHAT IT READS IS OF BULK AT MOST 1048576: true; the input reads as it did. -/
def boundRatiosUptoRow : OpenClaim := { program := "ytglkkhpdbfacfaa", sum := "3065c8ab147ff16d9df9e2394446b77e186c208335f183422663aa2d819a0e9d", func := "armplan/armplanlaw27.BoundRatios", spec := "boundRatios", unfollowed := true, recurses := true, apart := false, narrowed := true }
def BoundRatiosUptoSaid : Prop := boundRatiosUptoRow.holds Try.pinned (OpenSpec.upto boundRatiosSpec)

/-- 'armplanlaw27.BoundProves', WHERE WHAT IT READS IS OF BULK AT MOST 1048576: true; the input reads as it did. -/
def boundProvesUptoRow : OpenClaim := { program := "ytglkkhpdbfacfaa", sum := "3065c8ab147ff16d9df9e2394446b77e186c208335f183422663aa2d819a0e9d", func := "armplan/armplanlaw27.BoundProves", spec := "boundProves", unfollowed := true, recurses := true, apart := false, narrowed := true }
def BoundProvesUptoSaid : Prop := boundProvesUptoRow.holds Try.pinned (OpenSpec.upto boundProvesSpec)

/-- 'armplanlaw27.BoundReduced', WHERE WHAT IT READS IS OF BULK AT MOST 1048576: true; the input reads as it did. -/
def boundReducedUptoRow : OpenClaim := { program := "ytglkkhpdbfacfaa", sum := "3065c8ab147ff16d9df9e2394446b77e186c208335f183422663aa2d819a0e9d", func := "armplan/armplanlaw27.BoundReduced", spec := "boundReduced", unfollowed := true, recurses := true, apart := false, narrowed := true }
def BoundReducedUptoSaid : Prop := boundReducedUptoRow.holds Try.pinned (OpenSpec.upto boundReducedSpec)

/-- 'armplanlaw27.BoundSeparates', WHERE WHAT IT READS IS OF BULK AT MOST 1048576: true; the input reads as it did. -/
def boundSeparatesUptoRow : OpenClaim := { program := "ytglkkhpdbfacfaa", sum := "3065c8ab147ff16d9df9e2394446b77e186c208335f183422663aa2d819a0e9d", func := "armplan/armplanlaw27.BoundSeparates", spec := "boundSeparates", unfollowed := true, recurses := true, apart := false, narrowed := true }
def BoundSeparatesUptoSaid : Prop := boundSeparatesUptoRow.holds Try.pinned (OpenSpec.upto boundSeparatesSpec)

/-- 'armplanlaw27.BoundEither', WHERE WHAT IT READS IS OF BULK AT MOST 1048576: true; the input reads as it did. -/
def boundEitherUptoRow : OpenClaim := { program := "ytglkkhpdbfacfaa", sum := "3065c8ab147ff16d9df9e2394446b77e186c208335f183422663aa2d819a0e9d", func := "armplan/armplanlaw27.BoundEither", spec := "boundEither", unfollowed := true, recurses := true, apart := false, narrowed := true }
def BoundEitherUptoSaid : Prop := boundEitherUptoRow.holds Try.pinned (OpenSpec.upto boundEitherSpec)

end Rows
end Go.Proofs.Ytglkkhpdbfacfaa

/- Poses of intervals, as plain functions. No condition. -/
import Derived.Test.YtonampcmhhhffaaVMatLaw
import Derived.Test.YtonampcmhhhffaaVSxClo
namespace Go.Sx
def V3.zero : V3 := ⟨iv0, iv0, iv0⟩
def Po.shift (v : V3) : Po := ⟨M3.unit, v⟩
def Po.rest : Po := ⟨M3.unit, V3.zero⟩
def Po.turn (axis : Int) (a : Iv) : Po := ⟨M3.turn axis a, V3.zero⟩
def Po.app (p : Po) (v : V3) : V3 := V3.add p.t (M3.apply p.r v)
def Po.mul (p q : Po) : Po := ⟨M3.mul p.r q.r, Po.app p q.t⟩
def Po.inv (p : Po) : Po := ⟨M3.tr p.r, V3.neg (M3.apply (M3.tr p.r) p.t)⟩
def Po.within (p q : Po) : Bool := M3.within p.r q.r && V3.within p.t q.t
/-- a motion: a shift and up to two turns -/
def stepP (L : List Int) (i : Nat) (wide : Bool) (p : Po) : Po :=
  Po.mul p (Po.turn (srcR L (i + 2) 3) ⟨srcS L i 70000, srcS L i 70000 + (bif wide then srcR L (i + 1) 4000 else 0)⟩)
def motion0 (L : List Int) (i : Nat) : Po := Po.shift (V3.of ⟨srcS L i 196608, srcS L (i + 1) 196608, srcS L (i + 2) 196608⟩)
def motionN (L : List Int) (i : Nat) : Nat := (srcR L (i + 3) 3).toNat
def motion (L : List Int) (i : Nat) (wide : Bool) : Po := match motionN L i with
  | 0 => motion0 L i
  | 1 => stepP L (i + 4) wide (motion0 L i)
  | _ => stepP L (i + 7) wide (stepP L (i + 4) wide (motion0 L i))
def motionE (L : List Int) (i : Nat) : Nat := i + 4 + 3 * motionN L i
end Go.Sx

/- Vectors and rotations made from a source of numbers, as plain functions. No condition. -/
import Derived.Test.YtonampcmhhhffaaMatLaw4
import Derived.Test.YtonampcmhhhffaaSxSrc
namespace Go.Sx
def ivOf (L : List Int) (i : Nat) : Iv := ⟨srcS L i 327680, srcS L i 327680 + srcR L (i + 1) 3 * srcR L (i + 2) 40000⟩
def vecOf (L : List Int) (i : Nat) : V3 := ⟨ivOf L i, ivOf L (i + 3), ivOf L (i + 6)⟩
def turnOf (L : List Int) (i : Nat) : M3 := M3.turn (srcR L (i + 1) 3) ⟨srcS L i 70000, srcS L i 70000 + srcR L (i + 2) 3 * srcR L (i + 3) 9000⟩
def V3.norm (v : V3) : Iv := Iv.add (Iv.add (Iv.square v.x) (Iv.square v.y)) (Iv.square v.z)
end Go.Sx

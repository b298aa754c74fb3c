/- Boxes that are made from a robot and a source of numbers, as plain functions. No condition. -/
import Derived.Test.YtonampcmhhhffaaVRob
import Derived.Test.YtonampcmhhhffaaVSxAll
namespace Go.Sx
def JB (j : J) : Prop := -1000000 ≤ j.lo ∧ j.lo ≤ j.hi ∧ j.hi ≤ 1000000
theorem jointOf_b (L : List Int) (p : Nat) (k : Int) : JB (jointOf L p k).1 := by
  by_cases h0 : kindOf (srcR L (p + 2) 8) = 0
  · rw [jointOf_fix h0]
    exact ⟨by show (-1000000 : Int) ≤ 0; omega, by show (0 : Int) ≤ 0; omega, by show (0 : Int) ≤ 1000000; omega⟩
  · by_cases h : kindOf (srcR L (p + 2) 8) = 4 ∨ kindOf (srcR L (p + 2) 8) = 5
    · rw [jointOf_sl h]
      have a := srcR_bnd L (jQ p k) (k := 3) (by decide)
      have b := srcR_bnd L (jQ p k + 1) (k := 4) (by decide)
      unfold JB
      dsimp only
      omega
    · rw [jointOf_tu h0 h]
      have a := srcR_bnd L (jQ p k) (k := 5) (by decide)
      have b := srcR_bnd L (jQ p k + 1) (k := 4) (by decide)
      have c := srcR_bnd L (jQ p k + 2) (k := 3) (by decide)
      unfold JB
      dsimp only
      rw [Int.tdiv_eq_ediv_of_nonneg (a := (1 + srcR L (jQ p k + 1) 4) * 65536) (by omega), show (-srcR L (jQ p k) 5 * 65536).tdiv 8 = -(srcR L (jQ p k) 5 * 8192) by
        rw [show -srcR L (jQ p k) 5 * 65536 = -(srcR L (jQ p k) 5 * 8192) * 8 by omega]
        exact Int.mul_tdiv_cancel _ (by decide)]
      omega
theorem jsOf_b (L : List Int) (i : Nat) : ∀ k, ∀ j ∈ (jsOf L i k).1, JB j
  | 0, j, h => by cases h
  | k + 1, j, h => by
    rcases List.mem_append.1 (show j ∈ (jsOf L i k).1 ++ [(jointOf L (jsOf L i k).2 (k : Int)).1] from h) with h | h
    · exact jsOf_b L i k j h
    · obtain rfl := List.mem_singleton.1 h
      exact jointOf_b _ _ _
def ivc (v : Iv) : List Value := [.int .i64 v.lo, .int .i64 v.hi]
def bxW (l : List Int) (q : Nat) (d : Int) : Int × Nat :=
  if srcR l q 5 = 0 then (d, q + 1) else if srcR l q 5 = 1 ∨ srcR l q 5 = 2 then (srcR l (q + 1) 3000, q + 2) else if srcR l q 5 = 3 then (srcR l (q + 1) 200, q + 2) else (0, q + 1)
def bxLo (l : List Int) (q : Nat) (j : J) : Int := j.lo + srcR l q (j.hi - j.lo + 1)
def bxs (l : List Int) (js : List J) : Nat → List Iv × Nat
  | 0 => ([], 0)
  | k + 1 => match js[k]? with
    | some j => ((bxs l js k).1 ++ [⟨bxLo l (bxs l js k).2 j, min j.hi (bxLo l (bxs l js k).2 j + (bxW l ((bxs l js k).2 + 1) (j.hi - j.lo)).1)⟩], (bxW l ((bxs l js k).2 + 1) (j.hi - j.lo)).2)
    | none => bxs l js k
theorem bx_step {l : List Int} {js : List J} {k q : Nat} {j : J} {rows : List Iv} {r x : Int} {q2 : Nat} (hjk : js[k]? = some j) (h : bxs l js k = (rows, q)) (hr : r = srcR l q (j.hi - j.lo + 1)) (hw : bxW l (q + 1) (j.hi - j.lo) = (x, q2)) :
    bxs l js (k + 1) = (rows ++ [⟨j.lo + r, min j.hi (j.lo + r + x)⟩], q2) := by
  simp only [bxs, hjk, h, hw, bxLo, ← hr]
theorem bxW_0 {l : List Int} {q : Nat} {d r : Int} (hr : r = srcR l q 5) (h : r = 0) : bxW l q d = (d, q + 1) := if_pos (hr ▸ h)
theorem bxW_1 {l : List Int} {q : Nat} {d r x : Int} (hr : r = srcR l q 5) (h : r = 1 ∨ r = 2) (hx : x = srcR l (q + 1) 3000) : bxW l q d = (x, q + 1 + 1) := by
  unfold bxW
  rw [← hr, if_neg (by omega), if_pos h, hx]
theorem bxW_3 {l : List Int} {q : Nat} {d r x : Int} (hr : r = srcR l q 5) (h : r = 3) (hx : x = srcR l (q + 1) 200) : bxW l q d = (x, q + 1 + 1) := by
  unfold bxW
  rw [← hr, if_neg (by omega), if_neg (by omega), if_pos h, hx]
theorem bxW_4 {l : List Int} {q : Nat} {d r : Int} (hr : r = srcR l q 5) (h0 : ¬ r = 0) (h1 : ¬ r = 1) (h2 : ¬ r = 2) (h3 : ¬ r = 3) : bxW l q d = (0, q + 1) := by
  unfold bxW
  rw [← hr, if_neg h0, if_neg (by omega), if_neg h3]
def ivC (rows : List Iv) : List Value := (rows.map ivc).flatten
theorem ivC_snoc (rows : List Iv) (v : Iv) : ivC (rows ++ [v]) = ivC rows ++ ivc v := by simp [ivC]
theorem rows2 (l : List Iv) : ∀ r ∈ l.map ivc, r.length = 2 := fun r hr => by
  obtain ⟨v, _, rfl⟩ := List.mem_map.1 hr
  rfl
theorem iv_slc {rows : List Iv} {k cap : Nat} {a : Option Addr} {e : TypeId} {w : World} (hl : rows.length = k) (h : OwnF 0 e 2 a cap k (ivC rows) w) : SlcIs 2 a (rows.map ivc) w := by
  refine own_slc (m := 0) (e := e) (cap := cap) (rows2 _) ?_
  rw [List.length_map, hl]
  exact h
end Go.Sx

/- Plain laws of sine and cosine over intervals. No condition. -/
import Derived.Test.YtonampcmhhhffaaVAngLaw2
namespace Go.Sx

theorem within_of {a b : Iv} (ha : -2147483648 ≤ a.lo ∧ a.lo ≤ a.hi ∧ a.hi ≤ 2147483648) (hb : -2147483648 ≤ b.lo ∧ b.lo ≤ b.hi ∧ b.hi ≤ 2147483648) (h : b.lo ≤ a.lo ∧ a.hi ≤ b.hi) : Iv.within a b = true := by
  simp only [Iv.within, valid_of ha, valid_of hb, Bool.true_and, Bool.and_eq_true, decide_eq_true_eq]; exact h
def wid8 (i : Int) : Int := if i = 0 then 1 else if i = 1 then 9 else if i = 2 then 300 else if i = 3 then 5000 else if i = 4 then 20000 else if i = 5 then 40000 else if i = 6 then 66000 else 140000
theorem wid8_pos (i : Int) : 0 < wid8 i ∧ wid8 i ≤ 140000 := by
  unfold wid8
  repeat' split
  all_goals decide
def arcI (x width : Int) : Iv := ⟨x % 196608 - 65536, x % 196608 - 65536 + width / 8 % wid8 (width % 8)⟩
theorem arc_facts (x width : Int) : -65536 ≤ (arcI x width).lo ∧ (arcI x width).lo ≤ (arcI x width).hi ∧ (arcI x width).hi < 271072 := by
  have h := wid8_pos (width % 8)
  have h1 := Int.emod_nonneg (width / 8) (show wid8 (width % 8) ≠ 0 by omega)
  have h2 := Int.emod_lt_of_pos (width / 8) h.1
  simp only [arcI]; omega
theorem hull_of {a b : Iv} (ha : -2147483648 ≤ a.lo ∧ a.lo ≤ a.hi ∧ a.hi ≤ 2147483648) (hb : -2147483648 ≤ b.lo ∧ b.lo ≤ b.hi ∧ b.hi ≤ 2147483648) : Iv.hull a b = ⟨min a.lo b.lo, max a.hi b.hi⟩ := by
  simp [Iv.hull, valid_of ha, valid_of hb]
theorem hull_mk {x y z w : Int} (h : -65536 ≤ x ∧ x ≤ y ∧ y ≤ 65536) (h' : -65536 ≤ z ∧ z ≤ w ∧ w ≤ 65536) : Iv.hull ⟨x, y⟩ ⟨z, w⟩ = ⟨min x z, max y w⟩ := hull_of (a := ⟨x, y⟩) (b := ⟨z, w⟩) (by simp only; omega) (by simp only; omega)
/-- the sine over an interval, told by its ends -/
theorem over_spec {l h : Int} (c : Int) (v : -2147483648 ≤ l ∧ l ≤ h ∧ h ≤ 2147483648) (hw : h - l < 65536) :
    overI ⟨l, h⟩ (sinI (l + c)) (sinI (h + c)) (16384 - c) (49152 - c) =
      ⟨if l + c + (49152 - (l + c)) % 65536 ≤ h + c then -65536 else min (sinI (l + c)).lo (sinI (h + c)).lo,
       if l + c + (16384 - (l + c)) % 65536 ≤ h + c then 65536 else max (sinI (l + c)).hi (sinI (h + c)).hi⟩ := by
  have b1 := sin_bnd (l + c)
  have b2 := sin_bnd (h + c)
  have e0 : Iv.of 65536 = ⟨65536, 65536⟩ := by kernel_rfl
  have e1 : Iv.of (-65536) = ⟨-65536, -65536⟩ := by kernel_rfl
  have d1 : (l + (16384 - c - l) % 65536 ≤ h) = (l + c + (16384 - (l + c)) % 65536 ≤ h + c) := by apply propext; omega
  have d2 : (l + (49152 - c - l) % 65536 ≤ h) = (l + c + (49152 - (l + c)) % 65536 ≤ h + c) := by apply propext; omega
  simp only [overI, valid_of (a := ⟨l, h⟩) v, Bool.not_true, cond_false, decide_eq_false (show ¬ (65536 : Int) ≤ h - l by omega), meetsI, d1, d2, e0, e1]
  rw [hull_of (a := sinI (l + c)) (by omega) (by omega)]
  by_cases t : l + c + (16384 - (l + c)) % 65536 ≤ h + c
  all_goals by_cases u : l + c + (49152 - (l + c)) % 65536 ≤ h + c
  all_goals simp only [decide_eq_true, decide_eq_false, not_false_eq_true, t, u, if_true, if_false, cond_true, cond_false]
  · rw [hull_mk (show -65536 ≤ min (sinI (l + c)).lo (sinI (h + c)).lo ∧ min (sinI (l + c)).lo (sinI (h + c)).lo ≤ max (sinI (l + c)).hi (sinI (h + c)).hi ∧ max (sinI (l + c)).hi (sinI (h + c)).hi ≤ 65536 by omega) (by decide)]
    rw [hull_mk (show -65536 ≤ min (min (sinI (l + c)).lo (sinI (h + c)).lo) 65536 ∧ min (min (sinI (l + c)).lo (sinI (h + c)).lo) 65536 ≤ max (max (sinI (l + c)).hi (sinI (h + c)).hi) 65536 ∧ max (max (sinI (l + c)).hi (sinI (h + c)).hi) 65536 ≤ 65536 by omega) (by decide)]
    simp only [Iv.mk.injEq]; omega
  · rw [hull_mk (show -65536 ≤ min (sinI (l + c)).lo (sinI (h + c)).lo ∧ min (sinI (l + c)).lo (sinI (h + c)).lo ≤ max (sinI (l + c)).hi (sinI (h + c)).hi ∧ max (sinI (l + c)).hi (sinI (h + c)).hi ≤ 65536 by omega) (by decide)]
    simp only [Iv.mk.injEq]; omega
  · rw [hull_mk (show -65536 ≤ min (sinI (l + c)).lo (sinI (h + c)).lo ∧ min (sinI (l + c)).lo (sinI (h + c)).lo ≤ max (sinI (l + c)).hi (sinI (h + c)).hi ∧ max (sinI (l + c)).hi (sinI (h + c)).hi ≤ 65536 by omega) (by decide)]
    simp only [Iv.mk.injEq]; omega
theorem over_wide {l h : Int} {x y : Iv} {t u : Int} (v : -2147483648 ≤ l ∧ l ≤ h ∧ h ≤ 2147483648) (hw : 65536 ≤ h - l) : overI ⟨l, h⟩ x y t u = ⟨-65536, 65536⟩ := by
  simp [overI, valid_of (a := ⟨l, h⟩) v, decide_eq_true hw]
def ovI (c l h : Int) : Iv := overI ⟨l, h⟩ (sinI (l + c)) (sinI (h + c)) (16384 - c) (49152 - c)
theorem sinOver_ov (a : Iv) : sinOverI a = ovI 0 a.lo a.hi := by
  unfold sinOverI ovI; rw [Int.add_zero, Int.add_zero, Int.sub_zero, Int.sub_zero]
theorem cosOver_ov (a : Iv) : cosOverI a = ovI 16384 a.lo a.hi := by
  unfold cosOverI ovI
  rw [cos_sin, cos_sin]
  unfold overI meetsI
  have d1 : decide (a.lo + (0 - a.lo) % 65536 ≤ a.hi) = decide (a.lo + (16384 - 16384 - a.lo) % 65536 ≤ a.hi) := by congr
  have d2 : decide (a.lo + (32768 - a.lo) % 65536 ≤ a.hi) = decide (a.lo + (49152 - 16384 - a.lo) % 65536 ≤ a.hi) := by congr
  simp only [d1, d2]
theorem ov_bnd {c l h : Int} (v : -2147483648 ≤ l ∧ l ≤ h ∧ h ≤ 2147483648) : -65536 ≤ (ovI c l h).lo ∧ (ovI c l h).lo ≤ (ovI c l h).hi ∧ (ovI c l h).hi ≤ 65536 := by
  have b1 := sin_bnd (l + c)
  have b2 := sin_bnd (h + c)
  unfold ovI
  by_cases hw : h - l < 65536
  · rw [over_spec c v hw]; simp only; split <;> split <;> omega
  · rw [over_wide v (by omega)]; decide
theorem ov_has {c l h n : Int} (v : -2147483648 ≤ l ∧ l ≤ h ∧ h ≤ 2147483648) (hn : l ≤ n ∧ n ≤ h) : (ovI c l h).lo ≤ (sinI (n + c)).lo ∧ (sinI (n + c)).hi ≤ (ovI c l h).hi := by
  have b0 := sin_bnd (n + c)
  unfold ovI
  by_cases hw : h - l < 65536
  · rw [over_spec c v hw]
    have u1 := upper (lo := l + c) (hi := h + c) (n := n + c) (by omega) (by omega)
    have u2 := lower (lo := l + c) (hi := h + c) (n := n + c) (by omega) (by omega)
    simp only; split <;> split <;> omega
  · rw [over_wide v (by omega)]; simp only; omega
theorem ov_nested {c l h l' h' : Int} (v : -2147483648 ≤ l ∧ l ≤ h ∧ h ≤ 2147483648) (v' : l ≤ l' ∧ l' ≤ h' ∧ h' ≤ h) : (ovI c l h).lo ≤ (ovI c l' h').lo ∧ (ovI c l' h').hi ≤ (ovI c l h).hi := by
  have a1 := ov_has (c := c) (n := l') v (by omega)
  have a2 := ov_has (c := c) (n := h') v (by omega)
  have b0 := ov_bnd (c := c) (l := l') (h := h') (by omega)
  unfold ovI at a1 a2 b0 ⊢
  by_cases hw : h - l < 65536
  · rw [over_spec c v hw] at a1 a2 ⊢
    rw [over_spec c (by omega) (by omega)] at b0 ⊢
    simp only at a1 a2 b0 ⊢
    clear b0
    constructor
    · by_cases t : l' + c + (49152 - (l' + c)) % 65536 ≤ h' + c
      · rw [if_pos (show l + c + (49152 - (l + c)) % 65536 ≤ h + c by omega)]
        split <;> first | omega | (have := sin_bnd (l' + c); have := sin_bnd (h' + c); omega)
      · rw [if_neg t]; omega
    · by_cases t : l' + c + (16384 - (l' + c)) % 65536 ≤ h' + c
      · rw [if_pos (show l + c + (16384 - (l + c)) % 65536 ≤ h + c by omega)]
        split <;> first | omega | (have := sin_bnd (l' + c); have := sin_bnd (h' + c); omega)
      · rw [if_neg t]; omega
  · rw [over_wide v (by omega)]; simp only; omega
theorem sin_within {a : Iv} {n : Int} (v : -2147483648 ≤ a.lo ∧ a.lo ≤ a.hi ∧ a.hi ≤ 2147483648) (hn : a.lo ≤ n ∧ n ≤ a.hi) : Iv.within (sinI n) (sinOverI a) = true := by
  rw [sinOver_ov]
  have h := ov_has (c := 0) v hn
  rw [Int.add_zero] at h
  have b := ov_bnd (c := 0) v
  have s := sin_bnd n
  exact within_of (by omega) (by omega) h
theorem cos_within {a : Iv} {n : Int} (v : -2147483648 ≤ a.lo ∧ a.lo ≤ a.hi ∧ a.hi ≤ 2147483648) (hn : a.lo ≤ n ∧ n ≤ a.hi) : Iv.within (cosI n) (cosOverI a) = true := by
  rw [cosOver_ov, cos_sin]
  have h := ov_has (c := 16384) v hn
  have b := ov_bnd (c := 16384) v
  have s := sin_bnd (n + 16384)
  exact within_of (by omega) (by omega) h
theorem sinOver_within {a b : Iv} (v : -2147483648 ≤ a.lo ∧ a.lo ≤ a.hi ∧ a.hi ≤ 2147483648) (hb : a.lo ≤ b.lo ∧ b.lo ≤ b.hi ∧ b.hi ≤ a.hi) : Iv.within (sinOverI b) (sinOverI a) = true := by
  rw [sinOver_ov, sinOver_ov]
  have h := ov_nested (c := 0) v hb
  have b1 := ov_bnd (c := 0) v
  have b2 := ov_bnd (c := 0) (l := b.lo) (h := b.hi) (by omega)
  exact within_of (by omega) (by omega) h
theorem cosOver_within {a b : Iv} (v : -2147483648 ≤ a.lo ∧ a.lo ≤ a.hi ∧ a.hi ≤ 2147483648) (hb : a.lo ≤ b.lo ∧ b.lo ≤ b.hi ∧ b.hi ≤ a.hi) : Iv.within (cosOverI b) (cosOverI a) = true := by
  rw [cosOver_ov, cosOver_ov]
  have h := ov_nested (c := 16384) v hb
  have b1 := ov_bnd (c := 16384) v
  have b2 := ov_bnd (c := 16384) (l := b.lo) (h := b.hi) (by omega)
  exact within_of (by omega) (by omega) h
def partI (a : Iv) (i j : Int) : Iv :=
  let k := a.hi - a.lo + 1
  let p := a.lo + i % k
  bif decide (j % 2 = 0) then ⟨p, p⟩ else ⟨min p (a.lo + j / 2 % k), max p (a.lo + j / 2 % k)⟩
theorem part_in {a : Iv} (i j : Int) (v : a.lo ≤ a.hi) : a.lo ≤ (partI a i j).lo ∧ (partI a i j).lo ≤ (partI a i j).hi ∧ (partI a i j).hi ≤ a.hi := by
  have h1 := Int.emod_nonneg i (show a.hi - a.lo + 1 ≠ 0 by omega)
  have h2 := Int.emod_lt_of_pos i (show 0 < a.hi - a.lo + 1 by omega)
  have h3 := Int.emod_nonneg (j / 2) (show a.hi - a.lo + 1 ≠ 0 by omega)
  have h4 := Int.emod_lt_of_pos (j / 2) (show 0 < a.hi - a.lo + 1 by omega)
  unfold partI
  cases decide (j % 2 = 0) <;> simp only [cond_true, cond_false] <;> omega
end Go.Sx

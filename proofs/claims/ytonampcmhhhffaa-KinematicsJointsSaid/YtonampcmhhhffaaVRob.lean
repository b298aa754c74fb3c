/- Robots and scenes that are made from a source of numbers, as plain functions. No condition. -/
import Derived.Test.YtonampcmhhhffaaVPose
import Derived.Test.YtonampcmhhhffaaVSxStr
namespace Go.Sx
structure J where
  name : ByteArray
  kind : Int
  parent : Int
  off : Z3
  lo : Int
  hi : Int
  weight : Int
  speed : Int
  accel : Int
  torque : Int
def jc (j : J) : List Value := [.string j.name, .int .i64 j.kind, .int .i64 j.parent, .int .i64 j.off.x, .int .i64 j.off.y, .int .i64 j.off.z, .int .i64 j.lo, .int .i64 j.hi, .int .i64 j.weight, .int .i64 j.speed, .int .i64 j.accel, .int .i64 j.torque]
def jv (j : J) : Value := .agg #[.string j.name, .int .i64 j.kind, .int .i64 j.parent, .int .i64 j.off.x, .int .i64 j.off.y, .int .i64 j.off.z, .int .i64 j.lo, .int .i64 j.hi, .int .i64 j.weight, .int .i64 j.speed, .int .i64 j.accel, .int .i64 j.torque]
def z3c (v : Z3) : List Value := [.int .i64 v.x, .int .i64 v.y, .int .i64 v.z]
/-- the points of a shape around a centre -/
def ptOf (L : List Int) (q : Nat) (c : Z3) : Z3 := ⟨c.x + srcS L q 3 * 32768, c.y + srcS L (q + 1) 2 * 32768, c.z + srcS L (q + 2) 2 * 32768⟩
def ptsN (L : List Int) (p : Nat) : Nat := (srcR L p 4).toNat
def ptsOf (L : List Int) (p : Nat) (c : Z3) : Nat → List Z3
  | 0 => [c]
  | k + 1 => ptsOf L p c k ++ [ptOf L (p + 1 + 3 * k) c]
theorem ptsOf_len (L : List Int) (p : Nat) (c : Z3) : ∀ k, (ptsOf L p c k).length = k + 1
  | 0 => rfl
  | k + 1 => by simp [ptsOf, ptsOf_len L p c k]
theorem z3c_len (v : Z3) : (z3c v).length = 3 := rfl
theorem ptsN_b (L : List Int) (p : Nat) : ptsN L p ≤ 3 := by
  have := srcR_bnd L p (k := 4) (by decide)
  unfold ptsN
  omega
def ptsC (L : List Int) (p : Nat) (c : Z3) (k : Nat) : List Value := ((ptsOf L p c k).map z3c).flatten
theorem ptsC_succ (L : List Int) (p : Nat) (c : Z3) (k : Nat) : ptsC L p c (k + 1) = ptsC L p c k ++ z3c (ptOf L (p + 1 + 3 * k) c) := by
  simp [ptsC, ptsOf]
theorem rows3 (l : List Z3) : ∀ r ∈ l.map z3c, r.length = 3 := fun r hr => by
  obtain ⟨v, _, rfl⟩ := List.mem_map.1 hr
  rfl
theorem pts_slc {L : List Int} {p k cap : Nat} {c : Z3} {a : Option Addr} {e : TypeId} {w : World} (h : OwnF 0 e 3 a cap (k + 1) (ptsC L p c k) w) : SlcIs 3 a ((ptsOf L p c k).map z3c) w := by
  refine own_slc (m := 0) (e := e) (cap := cap) (rows3 _) ?_
  rw [List.length_map, ptsOf_len]
  exact h

/-! ### joints -/
def abc : ByteArray := ⟨#[97, 98, 99, 100, 101, 102, 103, 104, 105, 106]⟩
def letterB (k : Int) : ByteArray := abc.extract k.toNat (k + 1).toNat
def kindOf (k : Int) : Int := if k = 0 then 3 else if k = 1 then 3 else if k = 2 then 1 else if k = 3 then 2 else if k = 4 then 4 else if k = 5 then 5 else if k = 6 then 3 else 0
def jBase (L : List Int) (p : Nat) (k : Int) : J := ⟨letterB k, kindOf (srcR L (p + 2) 8), if srcR L (p + 3) 4 = 1 then -1 else k - 1, if 0 < k then ⟨131072, srcS L (p + 4) 2 * 32768, srcS L (p + 5) 1 * 32768⟩ else ⟨0, 0, 0⟩, 0, 0, 1 + srcR L p 4, 65536, 65536 + srcR L (p + 1) 3, 327680⟩
def jQ (p : Nat) (k : Int) : Nat := if 0 < k then p + 6 else p + 4
def jointOf (L : List Int) (p : Nat) (k : Int) : J × Nat :=
  if kindOf (srcR L (p + 2) 8) = 0 then (jBase L p k, jQ p k)
  else if kindOf (srcR L (p + 2) 8) = 4 ∨ kindOf (srcR L (p + 2) 8) = 5 then ({ jBase L p k with lo := -srcR L (jQ p k) 3 * 65536, hi := srcR L (jQ p k + 1) 4 * 32768 }, jQ p k + 2)
  else ({ jBase L p k with lo := (-srcR L (jQ p k) 5 * 65536).tdiv 8, hi := ((1 + srcR L (jQ p k + 1) 4) * 65536).tdiv 8 + srcR L (jQ p k + 2) 3 }, jQ p k + 3)
theorem jQ_pos {p : Nat} {k : Int} (h : 0 < k) : jQ p k = p + 6 := if_pos h
theorem jQ_neg {p : Nat} {k : Int} (h : ¬ 0 < k) : jQ p k = p + 4 := if_neg h
theorem jointOf_fix {L : List Int} {p : Nat} {k : Int} (h : kindOf (srcR L (p + 2) 8) = 0) : jointOf L p k = (jBase L p k, jQ p k) := if_pos h
theorem jointOf_sl {L : List Int} {p : Nat} {k : Int} (h : kindOf (srcR L (p + 2) 8) = 4 ∨ kindOf (srcR L (p + 2) 8) = 5) : jointOf L p k = ({ jBase L p k with lo := -srcR L (jQ p k) 3 * 65536, hi := srcR L (jQ p k + 1) 4 * 32768 }, jQ p k + 2) := by
  unfold jointOf
  rw [if_neg (by omega), if_pos h]
theorem jointOf_tu {L : List Int} {p : Nat} {k : Int} (h0 : ¬ kindOf (srcR L (p + 2) 8) = 0) (h : ¬ (kindOf (srcR L (p + 2) 8) = 4 ∨ kindOf (srcR L (p + 2) 8) = 5)) : jointOf L p k = ({ jBase L p k with lo := (-srcR L (jQ p k) 5 * 65536).tdiv 8, hi := ((1 + srcR L (jQ p k + 1) 4) * 65536).tdiv 8 + srcR L (jQ p k + 2) 3 }, jQ p k + 3) := by
  unfold jointOf
  rw [if_neg h0, if_neg h]
theorem jBase_a {L : List Int} {p : Nat} {k : Int} (hp : srcR L (p + 3) 4 = 1) (h : 0 < k) : jBase L p k = ⟨letterB k, kindOf (srcR L (p + 2) 8), -1, ⟨131072, srcS L (p + 4) 2 * 32768, srcS L (p + 5) 1 * 32768⟩, 0, 0, 1 + srcR L p 4, 65536, 65536 + srcR L (p + 1) 3, 327680⟩ := by unfold jBase; rw [if_pos hp, if_pos h]
theorem jBase_b {L : List Int} {p : Nat} {k : Int} (hp : srcR L (p + 3) 4 = 1) (h : ¬ 0 < k) : jBase L p k = ⟨letterB k, kindOf (srcR L (p + 2) 8), -1, ⟨0, 0, 0⟩, 0, 0, 1 + srcR L p 4, 65536, 65536 + srcR L (p + 1) 3, 327680⟩ := by unfold jBase; rw [if_pos hp, if_neg h]
theorem jBase_c {L : List Int} {p : Nat} {k : Int} (hp : ¬ srcR L (p + 3) 4 = 1) (h : 0 < k) : jBase L p k = ⟨letterB k, kindOf (srcR L (p + 2) 8), k - 1, ⟨131072, srcS L (p + 4) 2 * 32768, srcS L (p + 5) 1 * 32768⟩, 0, 0, 1 + srcR L p 4, 65536, 65536 + srcR L (p + 1) 3, 327680⟩ := by unfold jBase; rw [if_neg hp, if_pos h]
theorem jBase_d {L : List Int} {p : Nat} {k : Int} (hp : ¬ srcR L (p + 3) 4 = 1) (h : ¬ 0 < k) : jBase L p k = ⟨letterB k, kindOf (srcR L (p + 2) 8), k - 1, ⟨0, 0, 0⟩, 0, 0, 1 + srcR L p 4, 65536, 65536 + srcR L (p + 1) 3, 327680⟩ := by unfold jBase; rw [if_neg hp, if_neg h]

/-! ### robots -/
def nJ (L : List Int) (i : Nat) : Nat := (1 + srcR L i 3).toNat
theorem nJ_b (L : List Int) (i : Nat) : 1 ≤ nJ L i ∧ nJ L i ≤ 3 ∧ ((nJ L i : Nat) : Int) = 1 + srcR L i 3 := by
  have := srcR_bnd L i (k := 3) (by decide)
  unfold nJ
  omega
def jsOf (L : List Int) (i : Nat) : Nat → List J × Nat
  | 0 => ([], i + 1)
  | k + 1 => ((jsOf L i k).1 ++ [(jointOf L (jsOf L i k).2 (k : Int)).1], (jointOf L (jsOf L i k).2 (k : Int)).2)
def jsC (L : List Int) (i k : Nat) : List Value := ((jsOf L i k).1.map jc).flatten
theorem jsC_succ (L : List Int) (i k : Nat) : jsC L i (k + 1) = jsC L i k ++ jc (jointOf L (jsOf L i k).2 (k : Int)).1 := by simp [jsC, jsOf]
theorem jsOf_len (L : List Int) (i : Nat) : ∀ k, (jsOf L i k).1.length = k
  | 0 => rfl
  | k + 1 => by simp [jsOf, jsOf_len L i k]
theorem rows12 (l : List J) : ∀ r ∈ l.map jc, r.length = 12 := fun r hr => by
  obtain ⟨v, _, rfl⟩ := List.mem_map.1 hr
  rfl
theorem js_slc {L : List Int} {i k cap : Nat} {a : Option Addr} {e : TypeId} {w : World} (h : OwnF 0 e 12 a cap k (jsC L i k) w) : SlcIs 12 a ((jsOf L i k).1.map jc) w := by
  refine own_slc (m := 0) (e := e) (cap := cap) (rows12 _) ?_
  rw [List.length_map, jsOf_len]
  exact h
structure Ms where
  link : Int
  mass : Int
  p : Z3
def mc (m : Ms) : List Value := [.int .i64 m.link, .int .i64 m.mass, .int .i64 m.p.x, .int .i64 m.p.y, .int .i64 m.p.z]
def mQ (L : List Int) (i : Nat) : Nat := (jsOf L i (nJ L i)).2
def nM (L : List Int) (i : Nat) : Nat := (srcR L (mQ L i) 3).toNat
theorem nM_b (L : List Int) (i : Nat) : nM L i ≤ 2 ∧ ((nM L i : Nat) : Int) = srcR L (mQ L i) 3 := by
  have := srcR_bnd L (mQ L i) (k := 3) (by decide)
  unfold nM
  omega
def msOf (L : List Int) (i : Nat) : Nat → List Ms
  | 0 => []
  | k + 1 => msOf L i k ++ [⟨srcR L (mQ L i + 1 + 4 * k) (nJ L i), 1 + srcR L (mQ L i + 1 + 4 * k + 1) 9000, ⟨srcS L (mQ L i + 1 + 4 * k + 2) 3 * 32768, 0, srcS L (mQ L i + 1 + 4 * k + 3) 2 * 32768⟩⟩]
def msC (L : List Int) (i k : Nat) : List Value := ((msOf L i k).map mc).flatten
theorem msC_succ (L : List Int) (i k : Nat) : msC L i (k + 1) = msC L i k ++ mc ⟨srcR L (mQ L i + 1 + 4 * k) (nJ L i), 1 + srcR L (mQ L i + 1 + 4 * k + 1) 9000, ⟨srcS L (mQ L i + 1 + 4 * k + 2) 3 * 32768, 0, srcS L (mQ L i + 1 + 4 * k + 3) 2 * 32768⟩⟩ := by simp [msC, msOf]
theorem msOf_len (L : List Int) (i : Nat) : ∀ k, (msOf L i k).length = k
  | 0 => rfl
  | k + 1 => by simp [msOf, msOf_len L i k]
theorem rows5 (l : List Ms) : ∀ r ∈ l.map mc, r.length = 5 := fun r hr => by
  obtain ⟨v, _, rfl⟩ := List.mem_map.1 hr
  rfl
theorem ms_slc {L : List Int} {i k cap : Nat} {a : Option Addr} {e : TypeId} {w : World} (h : OwnF 0 e 5 a cap k (msC L i k) w) : SlcIs 5 a ((msOf L i k).map mc) w := by
  refine own_slc (m := 0) (e := e) (cap := cap) (rows5 _) ?_
  rw [List.length_map, msOf_len]
  exact h
def robQ (L : List Int) (i : Nat) : Nat := mQ L i + 1 + 4 * nM L i

/-! ### scenes -/
structure Sp where
  link : Int
  radius : Int
  pts : List Z3
abbrev Ad := Option Addr × Nat
def spc (s : Sp) (d : Ad) : List Value := [.int .i64 s.link, .int .i64 s.radius, .slice d.1 s.pts.length d.2]
def spRows : List Sp → List Ad → List (List Value)
  | s :: ss, d :: ds => spc s d :: spRows ss ds
  | _, _ => []
def spC (ss : List Sp) (ds : List Ad) : List Value := (spRows ss ds).flatten
theorem spRows_snoc : ∀ (ss : List Sp) (ds : List Ad) (s : Sp) (d : Ad), ds.length = ss.length → spRows (ss ++ [s]) (ds ++ [d]) = spRows ss ds ++ [spc s d]
  | [], [], s, d, _ => rfl
  | _ :: ss, _ :: ds, s, d, h => by simp [spRows, spRows_snoc ss ds s d (by simpa using h)]
  | [], _ :: _, _, _, h => by simp at h
  | _ :: _, [], _, _, h => by simp at h
theorem spC_snoc {ss : List Sp} {ds : List Ad} (s : Sp) (d : Ad) (h : ds.length = ss.length) : spC (ss ++ [s]) (ds ++ [d]) = spC ss ds ++ spc s d := by
  unfold spC
  rw [spRows_snoc ss ds s d h]
  simp
theorem spRows_len : ∀ (ss : List Sp) (ds : List Ad), ds.length = ss.length → (spRows ss ds).length = ss.length
  | [], _, _ => by simp [spRows]
  | _ :: ss, _ :: ds, h => by simp [spRows, spRows_len ss ds (by simpa using h)]
  | _ :: _, [], h => by simp at h
theorem spRows_sz : ∀ (ss : List Sp) (ds : List Ad), ∀ r ∈ spRows ss ds, r.length = 3
  | [], _, r, hr => by simp [spRows] at hr
  | _ :: _, [], r, hr => by simp [spRows] at hr
  | s :: ss, d :: ds, r, hr => by
    rcases List.mem_cons.1 hr with rfl | hr
    · rfl
    · exact spRows_sz ss ds r hr
/-- the points of all shapes lie in memory -/
def PtsF : List Sp → List Ad → World → Prop
  | s :: ss, d :: ds, w => SlcIs 3 d.1 (s.pts.map z3c) w ∧ PtsF ss ds w
  | _, _, _ => True
theorem PtsF_snoc : ∀ (ss : List Sp) (ds : List Ad) (s : Sp) (d : Ad) (w : World), ds.length = ss.length → PtsF ss ds w → SlcIs 3 d.1 (s.pts.map z3c) w → PtsF (ss ++ [s]) (ds ++ [d]) w
  | [], [], s, d, w, _, _, h => ⟨h, trivial⟩
  | _ :: ss, _ :: ds, s, d, w, h, h1, h2 => ⟨h1.1, PtsF_snoc ss ds s d w (by simpa using h) h1.2 h2⟩
  | [], _ :: _, _, _, _, h, _, _ => by simp at h
  | _ :: _, [], _, _, _, h, _, _ => by simp at h
theorem PtsF_un : ∀ (ss : List Sp) (ds : List Ad) (s : Sp) (d : Ad) (w : World), ds.length = ss.length → PtsF (ss ++ [s]) (ds ++ [d]) w → PtsF ss ds w ∧ SlcIs 3 d.1 (s.pts.map z3c) w
  | [], [], s, d, w, _, h => ⟨trivial, h.1⟩
  | _ :: ss, _ :: ds, s, d, w, h, h1 => by
    obtain ⟨p, q⟩ := PtsF_un ss ds s d w (by simpa using h) h1.2
    exact ⟨⟨h1.1, p⟩, q⟩
  | [], _ :: _, _, _, _, h, _ => by simp at h
  | _ :: _, [], _, _, _, h, _ => by simp at h
theorem PtsF_dep {ss : List Sp} {ds : List Ad} {s : Sp} {d : Ad} {D1 D2 : Nat → Prop} (h : ds.length = ss.length) (h1 : Depends D1 (SlcIs 3 d.1 (s.pts.map z3c))) (h2 : Depends D2 (PtsF ss ds)) : Depends (fun q => D1 q ∨ D2 q) (PtsF (ss ++ [s]) (ds ++ [d])) := fun w w' hq hF => by
  obtain ⟨p, q⟩ := PtsF_un ss ds s d w h hF
  exact PtsF_snoc ss ds s d w' h (h2 w w' (fun k hk => hq k (.inr hk)) p) (h1 w w' (fun k hk => hq k (.inl hk)) q)
/-- the shapes of the links -/
def linkSp (l : List Int) (q k : Nat) : Sp := ⟨(k : Int), ((1 + srcR l (q + 1) 3) * 65536).tdiv 8, ptsOf l (q + 3) ⟨srcR l (q + 2) 4 * 32768, 0, 0⟩ (ptsN l (q + 3))⟩
def shA (l : List Int) : Nat → List Sp × Nat
  | 0 => ([], robQ l 0)
  | k + 1 => if srcR l (shA l k).2 5 < 4 then ((shA l k).1 ++ [linkSp l (shA l k).2 k], (shA l k).2 + 3 + 1 + 3 * ptsN l ((shA l k).2 + 3)) else ((shA l k).1, (shA l k).2 + 1)
theorem shA_t {l : List Int} {k : Nat} (h : srcR l (shA l k).2 5 < 4) : shA l (k + 1) = ((shA l k).1 ++ [linkSp l (shA l k).2 k], (shA l k).2 + 3 + 1 + 3 * ptsN l ((shA l k).2 + 3)) := if_pos h
theorem shA_f {l : List Int} {k : Nat} (h : ¬ srcR l (shA l k).2 5 < 4) : shA l (k + 1) = ((shA l k).1, (shA l k).2 + 1) := if_neg h
theorem shA_len (l : List Int) : ∀ k, (shA l k).1.length ≤ k
  | 0 => Nat.le_refl _
  | k + 1 => by
    have := shA_len l k
    unfold shA
    split <;> simp <;> omega
/-- the obstacles -/
def obN (l : List Int) : Nat := (1 + srcR l (shA l (nJ l 0)).2 3).toNat
theorem obN_b (l : List Int) : 1 ≤ obN l ∧ obN l ≤ 3 ∧ ((obN l : Nat) : Int) = 1 + srcR l (shA l (nJ l 0)).2 3 := by
  have := srcR_bnd l (shA l (nJ l 0)).2 (k := 3) (by decide)
  unfold obN
  omega
def obSp (l : List Int) (q : Nat) : Sp := ⟨-1, ((1 + srcR l (q + 3) 4) * 65536).tdiv 8, ptsOf l (q + 4) ⟨srcS l q 9 * 32768, srcS l (q + 1) 9 * 32768, srcS l (q + 2) 2 * 32768⟩ (ptsN l (q + 4))⟩
def shB (l : List Int) : Nat → List Sp × Nat
  | 0 => ((shA l (nJ l 0)).1, (shA l (nJ l 0)).2 + 1)
  | k + 1 => ((shB l k).1 ++ [obSp l (shB l k).2], (shB l k).2 + 4 + 1 + 3 * ptsN l ((shB l k).2 + 4))
theorem shB_len (l : List Int) : ∀ k, (shB l k).1.length ≤ nJ l 0 + k
  | 0 => shA_len l _
  | k + 1 => by
    have := shB_len l k
    simp [shB]
    omega
def scQ (l : List Int) : Nat := (shB l (obN l)).2
def skN (l : List Int) : Nat := if srcR l (scQ l) 5 = 1 then 1 else 0
def skR (l : List Int) : List (List Value) := if srcR l (scQ l) 5 = 1 then [[.int .i64 (-1), .int .i64 (srcR l (scQ l + 1) (nJ l 0))]] else []
theorem sk_t {l : List Int} (h : srcR l (scQ l) 5 = 1) : skN l = 1 ∧ skR l = [[.int .i64 (-1), .int .i64 (srcR l (scQ l + 1) (nJ l 0))]] := ⟨if_pos h, if_pos h⟩
theorem sk_f {l : List Int} (h : ¬ srcR l (scQ l) 5 = 1) : skN l = 0 ∧ skR l = [] := ⟨if_neg h, if_neg h⟩
abbrev ScX := Ad × Ad × Ad × Ad × List Ad
def scV (l : List Int) (x : ScX) : Value := .agg #[.slice x.1.1 (nJ l 0) x.1.2, .slice x.2.1.1 (nM l 0) x.2.1.2, .slice x.2.2.1.1 (shB l (obN l)).1.length x.2.2.1.2, .slice x.2.2.2.1.1 (skN l) x.2.2.2.1.2]
def scP (l : List Int) (x : ScX) : Prop := x.2.2.2.2.length = (shB l (obN l)).1.length
def scF (l : List Int) (x : ScX) (w : World) : Prop := (SlcIs 12 x.1.1 ((jsOf l 0 (nJ l 0)).1.map jc) w ∧ SlcIs 5 x.2.1.1 ((msOf l 0 (nM l 0)).map mc) w) ∧ (SlcIs 3 x.2.2.1.1 (spRows (shB l (obN l)).1 x.2.2.2.2) w ∧ PtsF (shB l (obN l)).1 x.2.2.2.2 w) ∧ SlcIs 2 x.2.2.2.1.1 (skR l) w
theorem sp_slc {ss : List Sp} {ds : List Ad} {m cap : Nat} {a : Option Addr} {e : TypeId} {w : World} (hm : m = ss.length) (hl : ds.length = m) (h : OwnF 0 e 3 a cap m (spC ss ds) w) : SlcIs 3 a (spRows ss ds) w := by
  refine own_slc (m := 0) (e := e) (cap := cap) (spRows_sz _ _) ?_
  rw [spRows_len ss ds (by omega), ← hm]
  exact h
end Go.Sx

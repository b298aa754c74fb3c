/- Part 9 of the texts behind the last one: rules and contracts. No condition. -/
import Derived.Test.YtmbnpjpggccefaaGreatMV8
namespace Go.Sx
structure J where
 name : ByteArray
 kind : Int
 parent : Int
 off : Z3
 lo : Int
 hi : Int
 weight : Int
 speed : Int
 accel : Int
 torque : Int
def jc (j : J) : List Value := [.string j.name, .int .i64 j.kind, .int .i64 j.parent, .int .i64 j.off.x, .int .i64 j.off.y, .int .i64 j.off.z, .int .i64 j.lo, .int .i64 j.hi, .int .i64 j.weight, .int .i64 j.speed, .int .i64 j.accel, .int .i64 j.torque]
def jv (j : J) : Value := .agg #[.string j.name, .int .i64 j.kind, .int .i64 j.parent, .int .i64 j.off.x, .int .i64 j.off.y, .int .i64 j.off.z, .int .i64 j.lo, .int .i64 j.hi, .int .i64 j.weight, .int .i64 j.speed, .int .i64 j.accel, .int .i64 j.torque]
def abc : ByteArray := ⟨#[97, 98, 99, 100, 101, 102, 103, 104, 105, 106]⟩
def letterB (k : Int) : ByteArray := abc.extract k.toNat (k + 1).toNat
def qQH (k : Int) : Int := if k = 0 then 3 else if k = 1 then 3 else if k = 2 then 1 else if k = 3 then 2 else if k = 4 then 4 else if k = 5 then 5 else if k = 6 then 3 else 0
def jBase (L : List Int) (p : Nat) (k : Int) : J := ⟨letterB k, qQH (srcR L (p + 2) 8), if srcR L (p + 3) 4 = 1 then -1 else k - 1, if 0 < k then ⟨131072, srcS L (p + 4) 2 * 32768, srcS L (p + 5) 1 * 32768⟩ else ⟨0, 0, 0⟩, 0, 0, 1 + srcR L p 4, 65536, 65536 + srcR L (p + 1) 3, 327680⟩
def jQ (p : Nat) (k : Int) : Nat := if 0 < k then p + 6 else p + 4
def qGJ (L : List Int) (p : Nat) (k : Int) : J × Nat :=
 if qQH (srcR L (p + 2) 8) = 0 then (jBase L p k, jQ p k)
 else if qQH (srcR L (p + 2) 8) = 4 ∨ qQH (srcR L (p + 2) 8) = 5 then ({ jBase L p k with lo := -srcR L (jQ p k) 3 * 65536, hi := srcR L (jQ p k + 1) 4 * 32768 }, jQ p k + 2)
 else ({ jBase L p k with lo := (-srcR L (jQ p k) 5 * 65536).tdiv 8, hi := ((1 + srcR L (jQ p k + 1) 4) * 65536).tdiv 8 + srcR L (jQ p k + 2) 3 }, jQ p k + 3)
theorem qYX {p : Nat} {k : Int} (h : 0 < k) : jQ p k = p + 6 := if_pos h
theorem qYW {p : Nat} {k : Int} (h : ¬ 0 < k) : jQ p k = p + 4 := if_neg h
theorem jointOf_fix {L : List Int} {p : Nat} {k : Int} (h : qQH (srcR L (p + 2) 8) = 0) : qGJ L p k = (jBase L p k, jQ p k) := if_pos h
theorem qXU {L : List Int} {p : Nat} {k : Int} (h : qQH (srcR L (p + 2) 8) = 4 ∨ qQH (srcR L (p + 2) 8) = 5) : qGJ L p k = ({ jBase L p k with lo := -srcR L (jQ p k) 3 * 65536, hi := srcR L (jQ p k + 1) 4 * 32768 }, jQ p k + 2) := by
 unfold qGJ
 rw [if_neg (by omega), if_pos h]
theorem jointOf_tu {L : List Int} {p : Nat} {k : Int} (h0 : ¬ qQH (srcR L (p + 2) 8) = 0) (h : ¬ (qQH (srcR L (p + 2) 8) = 4 ∨ qQH (srcR L (p + 2) 8) = 5)) : qGJ L p k = ({ jBase L p k with lo := (-srcR L (jQ p k) 5 * 65536).tdiv 8, hi := ((1 + srcR L (jQ p k + 1) 4) * 65536).tdiv 8 + srcR L (jQ p k + 2) 3 }, jQ p k + 3) := by
 unfold qGJ
 rw [if_neg h0, if_neg h]
theorem qWU {L : List Int} {p : Nat} {k : Int} (hp : srcR L (p + 3) 4 = 1) (h : 0 < k) : jBase L p k = ⟨letterB k, qQH (srcR L (p + 2) 8), -1, ⟨131072, srcS L (p + 4) 2 * 32768, srcS L (p + 5) 1 * 32768⟩, 0, 0, 1 + srcR L p 4, 65536, 65536 + srcR L (p + 1) 3, 327680⟩ := by unfold jBase; rw [if_pos hp, if_pos h]
theorem qWK {L : List Int} {p : Nat} {k : Int} (hp : srcR L (p + 3) 4 = 1) (h : ¬ 0 < k) : jBase L p k = ⟨letterB k, qQH (srcR L (p + 2) 8), -1, ⟨0, 0, 0⟩, 0, 0, 1 + srcR L p 4, 65536, 65536 + srcR L (p + 1) 3, 327680⟩ := by unfold jBase; rw [if_pos hp, if_neg h]
theorem qWJ {L : List Int} {p : Nat} {k : Int} (hp : ¬ srcR L (p + 3) 4 = 1) (h : 0 < k) : jBase L p k = ⟨letterB k, qQH (srcR L (p + 2) 8), k - 1, ⟨131072, srcS L (p + 4) 2 * 32768, srcS L (p + 5) 1 * 32768⟩, 0, 0, 1 + srcR L p 4, 65536, 65536 + srcR L (p + 1) 3, 327680⟩ := by unfold jBase; rw [if_neg hp, if_pos h]
theorem qWY {L : List Int} {p : Nat} {k : Int} (hp : ¬ srcR L (p + 3) 4 = 1) (h : ¬ 0 < k) : jBase L p k = ⟨letterB k, qQH (srcR L (p + 2) 8), k - 1, ⟨0, 0, 0⟩, 0, 0, 1 + srcR L p 4, 65536, 65536 + srcR L (p + 1) 3, 327680⟩ := by unfold jBase; rw [if_neg hp, if_neg h]
def nJ (L : List Int) (i : Nat) : Nat := (1 + srcR L i 3).toNat
theorem nJ_b (L : List Int) (i : Nat) : 1 ≤ nJ L i ∧ nJ L i ≤ 3 ∧ ((nJ L i : Nat) : Int) = 1 + srcR L i 3 := by
 have := qGX L i (k := 3) (by decide)
 unfold nJ
 omega
def jsOf (L : List Int) (i : Nat) : Nat → List J × Nat
 | 0 => ([], i + 1)
 | k + 1 => ((jsOf L i k).1 ++ [(qGJ L (jsOf L i k).2 (k : Int)).1], (qGJ L (jsOf L i k).2 (k : Int)).2)
def jsC (L : List Int) (i k : Nat) : List Value := ((jsOf L i k).1.map jc).flatten
theorem jsC_succ (L : List Int) (i k : Nat) : jsC L i (k + 1) = jsC L i k ++ jc (qGJ L (jsOf L i k).2 (k : Int)).1 := by simp [jsC, jsOf]
theorem qGW (L : List Int) (i : Nat) : ∀ k, (jsOf L i k).1.length = k
 | 0 => rfl
 | k + 1 => by simp [jsOf, qGW L i k]
theorem rows12 (l : List J) : ∀ r ∈ l.map jc, r.length = 12 := fun r hr => by
 obtain ⟨v, _, rfl⟩ := List.mem_map.1 hr
 rfl
theorem js_slc {L : List Int} {i k cap : Nat} {a : Option Addr} {e : TypeId} {w : World} (h : OwnF 0 e 12 a cap k (jsC L i k) w) : SlcIs 12 a ((jsOf L i k).1.map jc) w := by
 refine zZQ (m := 0) (e := e) (cap := cap) (rows12 _) ?_
 rw [List.length_map, qGW]
 exact h
structure Ms where
 link : Int
 mass : Int
 p : Z3
def mc (m : Ms) : List Value := [.int .i64 m.link, .int .i64 m.mass, .int .i64 m.p.x, .int .i64 m.p.y, .int .i64 m.p.z]
def mQ (L : List Int) (i : Nat) : Nat := (jsOf L i (nJ L i)).2
def nM (L : List Int) (i : Nat) : Nat := (srcR L (mQ L i) 3).toNat
theorem nM_b (L : List Int) (i : Nat) : nM L i ≤ 2 ∧ ((nM L i : Nat) : Int) = srcR L (mQ L i) 3 := by
 have := qGX L (mQ L i) (k := 3) (by decide)
 unfold nM
 omega
def msOf (L : List Int) (i : Nat) : Nat → List Ms
 | 0 => []
 | k + 1 => msOf L i k ++ [⟨srcR L (mQ L i + 1 + 4 * k) (nJ L i), 1 + srcR L (mQ L i + 1 + 4 * k + 1) 9000, ⟨srcS L (mQ L i + 1 + 4 * k + 2) 3 * 32768, 0, srcS L (mQ L i + 1 + 4 * k + 3) 2 * 32768⟩⟩]
def msC (L : List Int) (i k : Nat) : List Value := ((msOf L i k).map mc).flatten
theorem msC_succ (L : List Int) (i k : Nat) : msC L i (k + 1) = msC L i k ++ mc ⟨srcR L (mQ L i + 1 + 4 * k) (nJ L i), 1 + srcR L (mQ L i + 1 + 4 * k + 1) 9000, ⟨srcS L (mQ L i + 1 + 4 * k + 2) 3 * 32768, 0, srcS L (mQ L i + 1 + 4 * k + 3) 2 * 32768⟩⟩ := by simp [msC, msOf]
theorem msOf_len (L : List Int) (i : Nat) : ∀ k, (msOf L i k).length = k
 | 0 => rfl
 | k + 1 => by simp [msOf, msOf_len L i k]
theorem rows5 (l : List Ms) : ∀ r ∈ l.map mc, r.length = 5 := fun r hr => by
 obtain ⟨v, _, rfl⟩ := List.mem_map.1 hr
 rfl
theorem ms_slc {L : List Int} {i k cap : Nat} {a : Option Addr} {e : TypeId} {w : World} (h : OwnF 0 e 5 a cap k (msC L i k) w) : SlcIs 5 a ((msOf L i k).map mc) w := by
 refine zZQ (m := 0) (e := e) (cap := cap) (rows5 _) ?_
 rw [List.length_map, msOf_len]
 exact h
def robQ (L : List Int) (i : Nat) : Nat := mQ L i + 1 + 4 * nM L i
structure Sp where
 link : Int
 radius : Int
 pts : List Z3
end Go.Sx
namespace Go.Sx
open Go.RowKit
structure Cn where
 kind : Int
 link : Int
 p : Z3
 n : Z3
 lo : Int
 hi : Int
def cnc (c : Cn) : List Value := [.int .i64 c.kind, .int .i64 c.link, .int .i64 c.p.x, .int .i64 c.p.y, .int .i64 c.p.z, .int .i64 c.n.x, .int .i64 c.n.y, .int .i64 c.n.z, .int .i64 c.lo, .int .i64 c.hi]
def cnOf (nf : Int → Int → Int → Z3) (L : List Int) (q : Nat) (m : Int) : Cn × Nat :=
 (⟨srcR L q 2, if srcR L (q + 10) 24 = 1 then srcR L (q + 11) 9 - 3 else srcR L (q + 1) m, ⟨(srcS L (q + 2) 4 * 65536).tdiv 2, srcS L (q + 3) 2 * 65536, (srcS L (q + 4) 2 * 65536).tdiv 2⟩,
  nf (srcR L (q + 5) 4096) (srcR L (q + 6) 4096) (srcR L (q + 7) 4096), srcS L (q + 8) 60 * 65536, srcS L (q + 8) 60 * 65536 + srcR L (q + 9) 90 * 65536⟩, if srcR L (q + 10) 24 = 1 then q + 12 else q + 11)
def cnsOf (nf : Int → Int → Int → Z3) (L : List Int) (m : Int) : Nat → List Cn × Nat
 | 0 => ([], 0)
 | k + 1 => ((cnsOf nf L m k).1 ++ [(cnOf nf L (cnsOf nf L m k).2 m).1], (cnOf nf L (cnsOf nf L m k).2 m).2)
theorem cnsOf_len (nf : Int → Int → Int → Z3) (L : List Int) (m : Int) : ∀ k, (cnsOf nf L m k).1.length = k
 | 0 => rfl
 | k + 1 => by simp [cnsOf, cnsOf_len nf L m k]
def cnC (l : List Cn) : List Value := (l.map cnc).flatten
theorem cnC_snoc (l : List Cn) (x : Cn) : cnC (l ++ [x]) = cnC l ++ cnc x := by simp [cnC]
theorem rows10 (l : List Cn) : ∀ r ∈ l.map cnc, r.length = 10 := fun r hr => by
 obtain ⟨v, _, rfl⟩ := List.mem_map.1 hr
 rfl
theorem cn_slc {l : List Cn} {k cap : Nat} {a : Option Addr} {e : TypeId} {w : World} (hl : l.length = k) (h : OwnF 0 e 10 a cap k (cnC l) w) : SlcIs 10 a (l.map cnc) w := by
 refine zZQ (m := 0) (e := e) (cap := cap) (rows10 _) ?_
 rw [List.length_map, hl]
 exact h
section
variable {nf : Int → Int → Int → Z3} {L : List Int} {m : Int} {k q : Nat} {l : List Cn} {a0 a1 a2 a3 a4 a5 a6 a7 a8 a9 b0 b1 : Int} {z : Z3}
theorem cns_t (h : cnsOf nf L m k = (l, q)) (h0 : a0 = srcR L q 2) (h2 : a2 = srcS L (q + 2) 4) (h3 : a3 = srcS L (q + 3) 2) (h4 : a4 = srcS L (q + 4) 2) (h5 : a5 = srcR L (q + 5) 4096) (h6 : a6 = srcR L (q + 6) 4096) (h7 : a7 = srcR L (q + 7) 4096)
  (hz : z = nf a5 a6 a7) (h8 : a8 = srcS L (q + 8) 60) (h9 : a9 = srcR L (q + 9) 90) (hb : b0 = srcR L (q + 10) 24) (h1 : b0 = 1) (hc : b1 = srcR L (q + 11) 9) :
  cnsOf nf L m (k + 1) = (l ++ [⟨a0, b1 - 3, ⟨(a2 * 65536).tdiv 2, a3 * 65536, (a4 * 65536).tdiv 2⟩, z, a8 * 65536, a8 * 65536 + a9 * 65536⟩], q + 12) := by
 subst h0 h2 h3 h4 h5 h6 h7 hz h8 h9 hc
 simp only [cnsOf, h, cnOf, ← hb, h1, if_true]
theorem cns_f (h : cnsOf nf L m k = (l, q)) (h0 : a0 = srcR L q 2) (ha : a1 = srcR L (q + 1) m) (h2 : a2 = srcS L (q + 2) 4) (h3 : a3 = srcS L (q + 3) 2) (h4 : a4 = srcS L (q + 4) 2) (h5 : a5 = srcR L (q + 5) 4096) (h6 : a6 = srcR L (q + 6) 4096) (h7 : a7 = srcR L (q + 7) 4096)
  (hz : z = nf a5 a6 a7) (h8 : a8 = srcS L (q + 8) 60) (h9 : a9 = srcR L (q + 9) 90) (hb : b0 = srcR L (q + 10) 24) (h1 : ¬ b0 = 1) :
  cnsOf nf L m (k + 1) = (l ++ [⟨a0, a1, ⟨(a2 * 65536).tdiv 2, a3 * 65536, (a4 * 65536).tdiv 2⟩, z, a8 * 65536, a8 * 65536 + a9 * 65536⟩], q + 11) := by
 subst h0 ha h2 h3 h4 h5 h6 h7 hz h8 h9
 simp only [cnsOf, h, cnOf, ← hb, h1, if_false]
end
end Go.Sx
namespace Go.Proofs.YtmbnpjpggccefaaGreat
open Go.Rx Rt Go.Sx Go.RowKit
def andI (k : IntKind) (x y : Int) : Int := k.wrap ((BitVec.ofInt k.bits x &&& BitVec.ofInt k.bits y).toNat)
theorem qYQ {β γ : Type} {F : β → γ} {c : Bool} {a b : γ} {f g : β} (h1 : a = F f) (h2 : b = F g) : (bif c then a else b) = F (bif c then f else g) := by cases c <;> assumption
noncomputable def o_mRound : List PV → Option (Bool × Ret) := fun ps => match ps with
 | [.n .i64 n, .n .i64 k] => some (decide (0 < k ∧ k ≤ 9223372036854775807), .v (.n .i64 (n % k)))
 | _ => none
theorem ok_mRound : OneOk Tryz.prog 15 o_mRound := by
 intro ps r h
 unfold o_mRound at h
 split at h
 ·simp only [Option.some.injEq, Prod.mk.injEq] at h
  obtain ⟨hg, rfl⟩ := h
  exact qQY (zG Tryz.func15 (by kernel_rfl) (by kernel_rfl)) rfl rfl (fun w => mRound _ _ (of_decide_eq_true hg) w)
 ·cases h
noncomputable def L1 : OrL := (15, o_mRound) :: ([] : OrL)
theorem L1_ok : AllP (fun x : Nat × (List PV → Option (Bool × Ret)) => OneOk Tryz.prog x.1 x.2) L1 := ⟨ok_mRound, trivial⟩
set_option maxRecDepth 100000 in
theorem tr_rUsable (x : Int) (y : Int) (z : Int) : runK T (OrL.k L1) 60 47 [.a [.n .i64 x, .n .i64 y, .n .i64 z]] =
 bif (!((decide (x = 0)) && ((decide (y = 0)) && ((decide (z = 0)) && true)))) then (bif (decide (x < (-16384))) then some (.v (.b false), [])
  else bif (decide (16384 < x)) then some (.v (.b false), [])
  else bif (decide (y < (-16384))) then some (.v (.b false), [])
  else bif (decide (16384 < y)) then some (.v (.b false), [])
  else bif (decide (z < (-16384))) then some (.v (.b false), [])
  else bif (decide (16384 < z)) then some (.v (.b false), [])
  else some (.v (.b true), []))
 else some (.v (.b false), []) := by kernel_rfl
noncomputable def rUse (x y z : Int) : Bool := (bif (!((decide (x = 0)) && ((decide (y = 0)) && ((decide (z = 0)) && true)))) then (bif (decide (x < (-16384))) then false else (bif (decide (16384 < x)) then false else (bif (decide (y < (-16384))) then false else (bif (decide (16384 < y)) then false else (bif (decide (z < (-16384))) then false else (bif (decide (16384 < z)) then false else true)))))) else false)
def qGY : Bool → Option (Ret × Mem) := fun v => some (.v (.b v), [])
theorem sp_rUsable (x y z : Int) : runK T (OrL.k L1) 60 47 [.a [.n .i64 x, .n .i64 y, .n .i64 z]] = some (.v (.b (rUse x y z)), []) := by
 rw [tr_rUsable]
 exact ((qYQ (F := qGY) (qYQ (F := qGY) rfl (qYQ (F := qGY) rfl (qYQ (F := qGY) rfl (qYQ (F := qGY) rfl (qYQ (F := qGY) rfl (qYQ (F := qGY) rfl rfl)))))) rfl) : _ = qGY (rUse x y z))
noncomputable def o_rUsable : List PV → Option (Bool × Ret) := fun ps => match ps with
 | [.a z'] => (z3D z').bind fun z => some (true, .v (.b (rUse z.x z.y z.z)))
 | _ => none
theorem ok_rUsable : OneOk Tryz.prog 47 o_rUsable := by
 intro ps r h
 unfold o_rUsable at h
 split at h
 ·simp only [Option.bind_eq_some_iff, Option.some.injEq, Prod.mk.injEq] at h
  obtain ⟨z, hz, hg, rfl⟩ := h
  rw [z3D_eq hz]
  exact uW tabOk mixed (OrL.ok L1_ok) (sp_rUsable _ _ _)
 ·cases h
noncomputable def L2 : OrL := (47, o_rUsable) :: L1
theorem L2_ok : AllP (fun x : Nat × (List PV → Option (Bool × Ret)) => OneOk Tryz.prog x.1 x.2) L2 := ⟨ok_rUsable, L1_ok⟩
set_option maxRecDepth 100000 in
theorem tr_mNormal (a : Int) (b : Int) (c : Int) : runK T (OrL.k L2) 60 42 [.n .i64 a, .n .i64 b, .n .i64 c] =
 bif (decide ((andI .i64 a 8) = 8)) then (bif rUse (Z3.mk (IntKind.i64.wrap (a % 32769 - 16384)) (IntKind.i64.wrap (b % 32769 - 16384)) (IntKind.i64.wrap (c % 32769 - 16384))).x (Z3.mk (IntKind.i64.wrap (a % 32769 - 16384)) (IntKind.i64.wrap (b % 32769 - 16384)) (IntKind.i64.wrap (c % 32769 - 16384))).y (Z3.mk (IntKind.i64.wrap (a % 32769 - 16384)) (IntKind.i64.wrap (b % 32769 - 16384)) (IntKind.i64.wrap (c % 32769 - 16384))).z then some (.v (.a [.n .i64 (IntKind.i64.wrap (a % 32769 - 16384)), .n .i64 (IntKind.i64.wrap (b % 32769 - 16384)), .n .i64 (IntKind.i64.wrap (c % 32769 - 16384))]), [])
  else some (.v (.a [.n .i64 1, .n .i64 0, .n .i64 0]), []))
 else bif rUse (Z3.mk (IntKind.i64.wrap (a % 41 - 20)) (IntKind.i64.wrap (b % 41 - 20)) (IntKind.i64.wrap (c % 41 - 20))).x (Z3.mk (IntKind.i64.wrap (a % 41 - 20)) (IntKind.i64.wrap (b % 41 - 20)) (IntKind.i64.wrap (c % 41 - 20))).y (Z3.mk (IntKind.i64.wrap (a % 41 - 20)) (IntKind.i64.wrap (b % 41 - 20)) (IntKind.i64.wrap (c % 41 - 20))).z then some (.v (.a [.n .i64 (IntKind.i64.wrap (a % 41 - 20)), .n .i64 (IntKind.i64.wrap (b % 41 - 20)), .n .i64 (IntKind.i64.wrap (c % 41 - 20))]), [])
 else some (.v (.a [.n .i64 1, .n .i64 0, .n .i64 0]), []) := by kernel_rfl
noncomputable def nrm (a b c : Int) : Z3 := (bif (decide ((andI .i64 a 8) = 8)) then (bif rUse (Z3.mk (IntKind.i64.wrap (a % 32769 - 16384)) (IntKind.i64.wrap (b % 32769 - 16384)) (IntKind.i64.wrap (c % 32769 - 16384))).x (Z3.mk (IntKind.i64.wrap (a % 32769 - 16384)) (IntKind.i64.wrap (b % 32769 - 16384)) (IntKind.i64.wrap (c % 32769 - 16384))).y (Z3.mk (IntKind.i64.wrap (a % 32769 - 16384)) (IntKind.i64.wrap (b % 32769 - 16384)) (IntKind.i64.wrap (c % 32769 - 16384))).z then (Z3.mk (IntKind.i64.wrap (a % 32769 - 16384)) (IntKind.i64.wrap (b % 32769 - 16384)) (IntKind.i64.wrap (c % 32769 - 16384))) else (Z3.mk 1 0 0)) else (bif rUse (Z3.mk (IntKind.i64.wrap (a % 41 - 20)) (IntKind.i64.wrap (b % 41 - 20)) (IntKind.i64.wrap (c % 41 - 20))).x (Z3.mk (IntKind.i64.wrap (a % 41 - 20)) (IntKind.i64.wrap (b % 41 - 20)) (IntKind.i64.wrap (c % 41 - 20))).y (Z3.mk (IntKind.i64.wrap (a % 41 - 20)) (IntKind.i64.wrap (b % 41 - 20)) (IntKind.i64.wrap (c % 41 - 20))).z then (Z3.mk (IntKind.i64.wrap (a % 41 - 20)) (IntKind.i64.wrap (b % 41 - 20)) (IntKind.i64.wrap (c % 41 - 20))) else (Z3.mk 1 0 0)))
def F_mNormal : Z3 → Option (Ret × Mem) := fun v => some (.v (.a (z3C v)), [])
theorem sp_mNormal (a b c : Int) : runK T (OrL.k L2) 60 42 [.n .i64 a, .n .i64 b, .n .i64 c] = some (.v (.a (z3C (nrm a b c))), []) := by
 rw [tr_mNormal]
 exact ((qYQ (F := F_mNormal) (qYQ (F := F_mNormal) rfl rfl) (qYQ (F := F_mNormal) rfl rfl)) : _ = F_mNormal (nrm a b c))
noncomputable def o_mNormal : List PV → Option (Bool × Ret) := fun ps => match ps with
 | [.n .i64 a, .n .i64 b, .n .i64 c] => some (true, .v (.a (z3C (nrm a b c))))
 | _ => none
theorem ok_mNormal : OneOk Tryz.prog 42 o_mNormal := by
 intro ps r h
 unfold o_mNormal at h
 split at h
 ·simp only [Option.some.injEq, Prod.mk.injEq] at h
  obtain ⟨hg, rfl⟩ := h
  exact uW tabOk mixed (OrL.ok L2_ok) (sp_mNormal _ _ _)
 ·cases h
noncomputable def L3 : OrL := (42, o_mNormal) :: L2
theorem L3_ok : AllP (fun x : Nat × (List PV → Option (Bool × Ret)) => OneOk Tryz.prog x.1 x.2) L3 := ⟨ok_mNormal, L2_ok⟩
theorem mNormal2 (a b c : Int) (w : World) : Calls Tryz.prog 42 [.int .i64 a, .int .i64 b, .int .i64 c].toArray w (Rets (z3 (nrm a b c)) w) := rets_of_snd (uW tabOk mixed (OrL.ok L2_ok) (sp_mNormal a b c)) rfl rfl w
end Go.Proofs.YtmbnpjpggccefaaGreat
namespace Go.Proofs.YtmbnpjpggccefaaGreat
open Go.Sx
theorem la189 : qYZ Tryz.prog 189 = some ([.int .i64 0, .int .i64 0, .int .i64 0, .int .i64 0], [(0, 1), (1, 1), (2, 1), (3, 1)]) := by kernel_rfl
theorem ze189 : qQV Tryz.prog 189 (.agg #[.int .i64 0, .int .i64 0, .int .i64 0, .int .i64 0]) := by unfold qQV; kernel_rfl
theorem ty189 : tyB Tryz.prog 189 true 4 = true := by kernel_rfl
theorem ar189 : arrB Tryz.prog 189 4 1 = true := by kernel_rfl
theorem en160 : jU Tryz.prog 160 := zG Tryz.func160 (by kernel_rfl) (by kernel_rfl)
theorem ze75 : qQV Tryz.prog 75 (.agg #[.int .i64 0, .int .i64 0, .int .i64 0, .int .i64 0, .int .i64 0, .int .i64 0]) := by unfold qQV; kernel_rfl
theorem ar39 : arrB Tryz.prog 39 3 1 = true := by kernel_rfl
theorem ar75 : arrB Tryz.prog 75 3 2 = true := by kernel_rfl
theorem ty75 : tyB Tryz.prog 75 true 6 = true := by kernel_rfl
theorem la75 : qYZ Tryz.prog 75 = some ([.int .i64 0, .int .i64 0, .int .i64 0, .int .i64 0, .int .i64 0, .int .i64 0], [(0, 2), (2, 2), (4, 2)]) := by kernel_rfl
theorem en142 : jU Tryz.prog 142 := zG Tryz.func142 (by kernel_rfl) (by kernel_rfl)
theorem en103 : jU Tryz.prog 103 := zG Tryz.func103 (by kernel_rfl) (by kernel_rfl)
theorem ze74 : qQV Tryz.prog 74 (.agg #[.int .i64 0, .int .i64 0, .int .i64 0, .int .i64 0, .int .i64 0, .int .i64 0, .int .i64 0, .int .i64 0, .int .i64 0, .int .i64 0, .int .i64 0, .int .i64 0, .int .i64 0, .int .i64 0, .int .i64 0, .int .i64 0, .int .i64 0, .int .i64 0]) := by unfold qQV; kernel_rfl
theorem ar74 : arrB Tryz.prog 74 3 6 = true := by kernel_rfl
theorem ar72 : arrB Tryz.prog 72 3 2 = true := by kernel_rfl
theorem ty74 : tyB Tryz.prog 74 true 18 = true := by kernel_rfl
theorem la72 : qYZ Tryz.prog 72 = some ([.int .i64 0, .int .i64 0, .int .i64 0, .int .i64 0, .int .i64 0, .int .i64 0], [(0, 2), (2, 2), (4, 2)]) := by kernel_rfl
theorem la74 : qYZ Tryz.prog 74 = some ([.int .i64 0, .int .i64 0, .int .i64 0, .int .i64 0, .int .i64 0, .int .i64 0, .int .i64 0, .int .i64 0, .int .i64 0, .int .i64 0, .int .i64 0, .int .i64 0, .int .i64 0, .int .i64 0, .int .i64 0, .int .i64 0, .int .i64 0, .int .i64 0], [(0, 6), (6, 6), (12, 6)]) := by kernel_rfl
theorem en169 : jU Tryz.prog 169 := zG Tryz.func169 (by kernel_rfl) (by kernel_rfl)
theorem en170 : jU Tryz.prog 170 := zG Tryz.func170 (by kernel_rfl) (by kernel_rfl)
theorem en163 : jU Tryz.prog 163 := zG Tryz.func163 (by kernel_rfl) (by kernel_rfl)
theorem en164 : jU Tryz.prog 164 := zG Tryz.func164 (by kernel_rfl) (by kernel_rfl)
theorem iScaled (a : Int) (b : Int) (ha : In64 a) (hb : In64 b) (hc : b ≤ 4611686018427387904) (w : World) : Calls Tryz.prog 160 [.int .i64 a, .int .i64 b].toArray w (Rets (iv (Iv.mk (qKX (a / 65536)) (qKX (ceilI b 65536)))) (w)) := by
 refine zX (n := 10) Tryz.func160 rfl rfl rfl ?_
 refine qK ?_
 refine qZ ?_
 refine yQ 4 ze71 rfl rfl rfl ?_; intro b4
 refine qJ ?_
 refine qQ ?_
 refine qK ?_
 refine qZ ?_
 refine qY (qU rfl) rfl rfl rfl ?_
 refine jW (F := vI) (zQ en167 rfl (fun w _ => fShiftDown _ _ (by decide) w)) rfl rfl rfl ?_; intro r6 hr6
 refine qY (qU rfl) rfl rfl rfl ?_
 refine jW (F := vI) (zQ en168 rfl (fun w _ => fShiftUp _ _ (by decide) hb w)) rfl rfl rfl ?_; intro r8 hr8
 refine jW (F := iv) (zQ en145 rfl (fun w _ => iLimited _ _  w)) rfl rfl rfl ?_; intro r9 hr9
 refine qG 4 ty71 rfl rfl rfl rfl rfl rfl rfl rfl ?_
 refine qJ ?_
 refine qQ ?_
 refine zV ?_
 refine zK (rs := [.cell 4 71]) rfl (resC (zU 4 rfl rfl ty71 rfl) (resN)) (congrArg (iv) (?_ : ⟨_, _⟩ = Iv.mk (qKX (a / 65536)) (qKX (ceilI b 65536))))
 subst_vars; rfl
theorem ix4_0 {p0 p1 p2 p3 : Int} : ∀ w : World, (Instr.index 189 (.agg #[.int .i64 p0, .int .i64 p1, .int .i64 p2, .int .i64 p3]) (.int .i64 0)).run Tryz.prog w = .ok (.int .i64 p0) w := fun w => by kernel_rfl
theorem ix4_1 {p0 p1 p2 p3 : Int} : ∀ w : World, (Instr.index 189 (.agg #[.int .i64 p0, .int .i64 p1, .int .i64 p2, .int .i64 p3]) (.int .i64 1)).run Tryz.prog w = .ok (.int .i64 p1) w := fun w => by kernel_rfl
theorem ix4_2 {p0 p1 p2 p3 : Int} : ∀ w : World, (Instr.index 189 (.agg #[.int .i64 p0, .int .i64 p1, .int .i64 p2, .int .i64 p3]) (.int .i64 2)).run Tryz.prog w = .ok (.int .i64 p2) w := fun w => by kernel_rfl
theorem ix4_3 {p0 p1 p2 p3 : Int} : ∀ w : World, (Instr.index 189 (.agg #[.int .i64 p0, .int .i64 p1, .int .i64 p2, .int .i64 p3]) (.int .i64 3)).run Tryz.prog w = .ok (.int .i64 p3) w := fun w => by kernel_rfl
theorem iMul (a0 a1 : Int) (b0 b1 : Int) (w : World) : Calls Tryz.prog 143 [.agg #[.int .i64 a0, .int .i64 a1], .agg #[.int .i64 b0, .int .i64 b1]].toArray w (Rets (iv (Iv.mul (⟨a0, a1⟩ : Iv) (⟨b0, b1⟩ : Iv))) (w)) := by
 refine zX (n := 54) Tryz.func143 rfl rfl rfl ?_
 refine qK ?_
 refine qZ ?_
 refine kY 2 rfl rfl rfl rfl ?_; intro b2
 refine kY 3 rfl rfl rfl rfl ?_; intro b3
 refine yQ 4 ze71 rfl rfl rfl ?_; intro b4
 refine qJ ?_
 refine qQ ?_
 refine qK ?_
 refine qK ?_
 refine qZ ?_
 refine qY (zJ 2 ty71 rfl rfl rfl) rfl rfl rfl ?_
 refine qY (zJ 3 ty71 rfl rfl rfl) rfl rfl rfl ?_
 refine jW (F := vB) (zQ en134 rfl (fun w _ => iValid2 _ _ _ _  w)) rfl rfl rfl ?_; intro r12 hr12
 refine qY (qUX rfl) rfl rfl rfl ?_
 refine qJ ?_
 refine qQ ?_
 refine yH rfl (fun hc13 => ?_) (fun hc13 => ?_)
 ·
  refine qK ?_
  refine qZ ?_
  refine qY (zH la71 rfl rfl) rfl rfl rfl ?_
  refine qG 4 ty71 rfl rfl rfl rfl rfl rfl rfl rfl ?_
  refine qJ ?_
  refine qQ ?_
  refine zV ?_
  refine jK ?_
  refine zK (rs := [.cell 4 71]) rfl (resC (zU 4 rfl rfl ty71 rfl) (resN)) (congrArg (iv) (?_ : ⟨_, _⟩ = Iv.mul (⟨a0, a1⟩ : Iv) (⟨b0, b1⟩ : Iv)))
  subst_vars; first | (simp_all [Iv.mul, min4, max4]; done) | (simp_all [Iv.mul, min4, max4] <;> omega) | grind [Iv.mul, min4, max4]
 ·
  refine yZ ?_
  refine qQ ?_
  refine qK ?_
  have hv := (hr12.symm.trans (by simpa using hc13))
  rw [Bool.and_eq_true] at hv
  have ha := qUH hv.1
  have hb := qUH hv.2
  have m1 := zQQ (a := a0) (b := b0) (by omega) (by omega)
  have m2 := zQQ (a := a0) (b := b1) (by omega) (by omega)
  have m3 := zQQ (a := a1) (b := b0) (by omega) (by omega)
  have m4 := zQQ (a := a1) (b := b1) (by omega) (by omega)
  refine qZ ?_
  refine qY (qV qZV rfl) rfl rfl rfl ?_
  refine qY (zY 2 ty2 rfl rfl rfl) rfl rfl rfl ?_
  refine qY (qV qZV rfl) rfl rfl rfl ?_
  refine qY (zY 3 ty2 rfl rfl rfl) rfl rfl rfl ?_
  refine qY (jZ rfl rfl (by first | exact zW ⟨by omega, by omega⟩ | rfl)) rfl rfl rfl ?_
  refine qY (qV qZV rfl) rfl rfl rfl ?_
  refine qY (zY 2 ty2 rfl rfl rfl) rfl rfl rfl ?_
  refine qY (qV qYJ rfl) rfl rfl rfl ?_
  refine qY (zY 3 ty2 rfl rfl rfl) rfl rfl rfl ?_
  refine qY (jZ rfl rfl (by first | exact zW ⟨by omega, by omega⟩ | rfl)) rfl rfl rfl ?_
  refine qY (qV qYJ rfl) rfl rfl rfl ?_
  refine qY (zY 2 ty2 rfl rfl rfl) rfl rfl rfl ?_
  refine qY (qV qZV rfl) rfl rfl rfl ?_
  refine qY (zY 3 ty2 rfl rfl rfl) rfl rfl rfl ?_
  refine qY (jZ rfl rfl (by first | exact zW ⟨by omega, by omega⟩ | rfl)) rfl rfl rfl ?_
  refine qY (qV qYJ rfl) rfl rfl rfl ?_
  refine qY (zY 2 ty2 rfl rfl rfl) rfl rfl rfl ?_
  refine qY (qV qYJ rfl) rfl rfl rfl ?_
  refine qY (zY 3 ty2 rfl rfl rfl) rfl rfl rfl ?_
  refine qY (jZ rfl rfl (by first | exact zW ⟨by omega, by omega⟩ | rfl)) rfl rfl rfl ?_
  refine qY (zH la189 rfl rfl) rfl rfl rfl ?_
  refine yQ 5 ze189 rfl rfl rfl ?_; intro b5
  refine qG 5 ty189 rfl rfl rfl rfl rfl rfl rfl rfl ?_
  refine qJ ?_
  refine qQ ?_
  refine qK ?_
  refine yY 5 mo (by kernel_rfl) ?_
  simp only [List.take_succ_cons, List.take_zero, List.drop_succ_cons, List.drop_zero]
  refine qH (qW ar189 rfl rfl (by first | decide | omega) (by first | decide | omega)) rfl rfl rfl ?_
  refine qH (zY 5 ty2 rfl rfl rfl) rfl rfl rfl ?_
  refine qH (qW ar189 rfl rfl (by first | decide | omega) (by first | decide | omega)) rfl rfl rfl ?_
  refine qH (zY 5 ty2 rfl rfl rfl) rfl rfl rfl ?_
  refine qH (qX rfl) rfl rfl rfl ?_
  refine jX ?_
  refine yU ?_
  refine qY (qX rfl) rfl rfl rfl ?_
  refine qJ ?_
  refine qQ ?_
  refine qK ?_
  refine qK ?_
  refine qZ ?_
  refine qY (zJ 5 ty189 rfl rfl rfl) rfl rfl rfl ?_
  refine qY (qU rfl) rfl rfl rfl ?_
  refine qJ ?_
  refine qQ ?_
  refine yJ ?_
  refine qXV 5 ?_
  refine kZ ?_
  refine qK ?_
  refine qZ ?_
  refine qY (kX rfl rfl) rfl rfl rfl ?_
  refine qJ ?_
  refine qQ ?_
  refine qK ?_
  refine yX rfl (by decide) ?_
  refine yZ ?_
  refine qQ ?_
  refine qK ?_
  refine yJ ?_
  refine qK ?_
  refine qZ ?_
  refine qY (opV_index rfl rfl (ix4_0)) rfl rfl rfl ?_
  refine qY (qX rfl) rfl rfl rfl ?_
  refine qJ ?_
  refine qQ ?_
  refine qZ ?_
  refine qY (qU rfl) rfl rfl rfl ?_
  refine qY (qU rfl) rfl rfl rfl ?_
  refine qY (qKY rfl rfl) rfl rfl rfl ?_
  refine qY (qU rfl) rfl rfl rfl ?_
  refine qY (qU rfl) rfl rfl rfl ?_
  refine qY (qVV rfl rfl) rfl rfl rfl ?_
  refine qY (qX rfl) rfl rfl rfl ?_
  refine qY (qX rfl) rfl rfl rfl ?_
  refine qJ ?_
  refine zZ ?_
  refine qQ ?_
  refine qZ ?_
  refine qY (yK rfl rfl (by first | exact zW ⟨by omega, by omega⟩ | rfl)) rfl rfl rfl ?_
  refine qY (qU rfl) rfl rfl rfl ?_
  refine qJ ?_
  refine jJ ?_
  refine kZ ?_
  refine qK ?_
  refine qZ ?_
  refine qY (kX rfl rfl) rfl rfl rfl ?_
  refine qJ ?_
  refine qQ ?_
  refine qK ?_
  refine yX rfl (by decide) ?_
  refine yZ ?_
  refine qQ ?_
  refine qK ?_
  refine yJ ?_
  refine qK ?_
  refine qZ ?_
  refine qY (opV_index rfl rfl (ix4_1)) rfl rfl rfl ?_
  refine qY (qX rfl) rfl rfl rfl ?_
  refine qJ ?_
  refine qQ ?_
  refine qZ ?_
  refine qY (qU rfl) rfl rfl rfl ?_
  refine qY (qU rfl) rfl rfl rfl ?_
  refine qY (qKY rfl rfl) rfl rfl rfl ?_
  refine qY (qU rfl) rfl rfl rfl ?_
  refine qY (qU rfl) rfl rfl rfl ?_
  refine qY (qVV rfl rfl) rfl rfl rfl ?_
  refine qY (qX rfl) rfl rfl rfl ?_
  refine qY (qX rfl) rfl rfl rfl ?_
  refine qJ ?_
  refine zZ ?_
  refine qQ ?_
  refine qZ ?_
  refine qY (yK rfl rfl (by first | exact zW ⟨by omega, by omega⟩ | rfl)) rfl rfl rfl ?_
  refine qY (qU rfl) rfl rfl rfl ?_
  refine qJ ?_
  refine jJ ?_
  refine kZ ?_
  refine qK ?_
  refine qZ ?_
  refine qY (kX rfl rfl) rfl rfl rfl ?_
  refine qJ ?_
  refine qQ ?_
  refine qK ?_
  refine yX rfl (by decide) ?_
  refine yZ ?_
  refine qQ ?_
  refine qK ?_
  refine yJ ?_
  refine qK ?_
  refine qZ ?_
  refine qY (opV_index rfl rfl (ix4_2)) rfl rfl rfl ?_
  refine qY (qX rfl) rfl rfl rfl ?_
  refine qJ ?_
  refine qQ ?_
  refine qZ ?_
  refine qY (qU rfl) rfl rfl rfl ?_
  refine qY (qU rfl) rfl rfl rfl ?_
  refine qY (qKY rfl rfl) rfl rfl rfl ?_
  refine qY (qU rfl) rfl rfl rfl ?_
  refine qY (qU rfl) rfl rfl rfl ?_
  refine qY (qVV rfl rfl) rfl rfl rfl ?_
  refine qY (qX rfl) rfl rfl rfl ?_
  refine qY (qX rfl) rfl rfl rfl ?_
  refine qJ ?_
  refine zZ ?_
  refine qQ ?_
  refine qZ ?_
  refine qY (yK rfl rfl (by first | exact zW ⟨by omega, by omega⟩ | rfl)) rfl rfl rfl ?_
  refine qY (qU rfl) rfl rfl rfl ?_
  refine qJ ?_
  refine jJ ?_
  refine kZ ?_
  refine qK ?_
  refine qZ ?_
  refine qY (kX rfl rfl) rfl rfl rfl ?_
  refine qJ ?_
  refine qQ ?_
  refine qK ?_
  refine yX rfl (by decide) ?_
  refine yZ ?_
  refine qQ ?_
  refine qK ?_
  refine yJ ?_
  refine qK ?_
  refine qZ ?_
  refine qY (opV_index rfl rfl (ix4_3)) rfl rfl rfl ?_
  refine qY (qX rfl) rfl rfl rfl ?_
  refine qJ ?_
  refine qQ ?_
  refine qZ ?_
  refine qY (qU rfl) rfl rfl rfl ?_
  refine qY (qU rfl) rfl rfl rfl ?_
  refine qY (qKY rfl rfl) rfl rfl rfl ?_
  refine qY (qU rfl) rfl rfl rfl ?_
  refine qY (qU rfl) rfl rfl rfl ?_
  refine qY (qVV rfl rfl) rfl rfl rfl ?_
  refine qY (qX rfl) rfl rfl rfl ?_
  refine qY (qX rfl) rfl rfl rfl ?_
  refine qJ ?_
  refine zZ ?_
  refine qQ ?_
  refine qZ ?_
  refine qY (yK rfl rfl (by first | exact zW ⟨by omega, by omega⟩ | rfl)) rfl rfl rfl ?_
  refine qY (qU rfl) rfl rfl rfl ?_
  refine qJ ?_
  refine jJ ?_
  refine kZ ?_
  refine qK ?_
  refine qZ ?_
  refine qY (kX rfl rfl) rfl rfl rfl ?_
  refine qJ ?_
  refine qQ ?_
  refine qK ?_
  refine qJX rfl (by decide) ?_
  refine qUK ?_
  refine jV ?_
  refine jV ?_
  refine uY ?_
  refine qQ ?_
  refine qK ?_
  refine qZ ?_
  refine qY (qU rfl) rfl rfl rfl ?_
  refine qY (qU rfl) rfl rfl rfl ?_
  refine jW (F := iv) (zQ en160 rfl (fun w _ => iScaled _ _ (by unfold In64; omega) (by unfold In64; omega) (by omega) w)) rfl rfl rfl ?_; intro r53 hr53
  refine qG 4 ty71 rfl rfl rfl rfl rfl rfl rfl rfl ?_
  refine qJ ?_
  refine qQ ?_
  refine zV ?_
  refine zK (rs := [.cell 4 71]) rfl (resC (zU 4 rfl rfl ty71 rfl) (resN)) (congrArg (iv) (?_ : ⟨_, _⟩ = Iv.mul (⟨a0, a1⟩ : Iv) (⟨b0, b1⟩ : Iv)))
  subst_vars; first | (simp_all [Iv.mul, min4, max4]; done) | (simp_all [Iv.mul, min4, max4] <;> omega) | grind [Iv.mul, min4, max4]
theorem mPoint (p0 p1 p2 : Int) (w : World) : Calls Tryz.prog 59 [.agg #[.int .i64 p0, .int .i64 p1, .int .i64 p2]].toArray w (Rets (v3 (V3.of (⟨p0, p1, p2⟩ : Z3))) (w)) := by
 refine zX (n := 16) Tryz.func59 rfl rfl rfl ?_
 refine qK ?_
 refine qZ ?_
 refine kY 1 rfl rfl rfl rfl ?_; intro b1
 refine yQ 2 ze75 rfl rfl rfl ?_; intro b2
 refine qJ ?_
 refine qQ ?_
 refine qK ?_
 refine qZ ?_
 refine yQ 3 ze75 rfl rfl rfl ?_; intro b3
 refine qJ ?_
 refine qQ ?_
 refine qK ?_
 refine qK ?_
 refine qZ ?_
 refine qY (qU rfl) rfl rfl rfl ?_
 refine qJ ?_
 refine qQ ?_
 refine yJ ?_
 refine qXV 4 ?_
 refine kZ ?_
 refine qK ?_
 refine qZ ?_
 refine qY (kX rfl rfl) rfl rfl rfl ?_
 refine qJ ?_
 refine qQ ?_
 refine qK ?_
 refine yX rfl (by decide) ?_
 refine yZ ?_
 refine qQ ?_
 refine qK ?_
 refine yJ ?_
 refine qK ?_
 refine qZ ?_
 refine qY (qU rfl) rfl rfl rfl ?_
 refine qY (qX rfl) rfl rfl rfl ?_
 refine qJ ?_
 refine qQ ?_
 refine qZ ?_
 refine qY (qU rfl) rfl rfl rfl ?_
 refine qY (qU rfl) rfl rfl rfl ?_
 refine qY (qW ar39 rfl rfl (by first | decide | omega) (by first | decide | omega)) rfl rfl rfl ?_
 refine qY (zY 1 ty2 rfl rfl rfl) rfl rfl rfl ?_
 refine jW (F := iv) (zQ en99 rfl (fun w _ => iOf _  w)) rfl rfl rfl ?_; intro r12 hr12
 refine qY (qW ar75 rfl rfl (by first | decide | omega) (by first | decide | omega)) rfl rfl rfl ?_
 refine qG 3 ty71 rfl rfl rfl rfl rfl rfl rfl rfl ?_
 refine qJ ?_
 refine zZ ?_
 refine qQ ?_
 refine qZ ?_
 refine qY (yK rfl rfl (by first | exact zW ⟨by omega, by omega⟩ | rfl)) rfl rfl rfl ?_
 refine qY (qU rfl) rfl rfl rfl ?_
 refine qJ ?_
 refine jJ ?_
 refine kZ ?_
 refine qK ?_
 refine qZ ?_
 refine qY (kX rfl rfl) rfl rfl rfl ?_
 refine qJ ?_
 refine qQ ?_
 refine qK ?_
 refine yX rfl (by decide) ?_
 refine yZ ?_
 refine qQ ?_
 refine qK ?_
 refine yJ ?_
 refine qK ?_
 refine qZ ?_
 refine qY (qU rfl) rfl rfl rfl ?_
 refine qY (qX rfl) rfl rfl rfl ?_
 refine qJ ?_
 refine qQ ?_
 refine qZ ?_
 refine qY (qU rfl) rfl rfl rfl ?_
 refine qY (qU rfl) rfl rfl rfl ?_
 refine qY (qW ar39 rfl rfl (by first | decide | omega) (by first | decide | omega)) rfl rfl rfl ?_
 refine qY (zY 1 ty2 rfl rfl rfl) rfl rfl rfl ?_
 refine jW (F := iv) (zQ en99 rfl (fun w _ => iOf _  w)) rfl rfl rfl ?_; intro r12_2 hr12_2
 refine qY (qW ar75 rfl rfl (by first | decide | omega) (by first | decide | omega)) rfl rfl rfl ?_
 refine qG 3 ty71 rfl rfl rfl rfl rfl rfl rfl rfl ?_
 refine qJ ?_
 refine zZ ?_
 refine qQ ?_
 refine qZ ?_
 refine qY (yK rfl rfl (by first | exact zW ⟨by omega, by omega⟩ | rfl)) rfl rfl rfl ?_
 refine qY (qU rfl) rfl rfl rfl ?_
 refine qJ ?_
 refine jJ ?_
 refine kZ ?_
 refine qK ?_
 refine qZ ?_
 refine qY (kX rfl rfl) rfl rfl rfl ?_
 refine qJ ?_
 refine qQ ?_
 refine qK ?_
 refine yX rfl (by decide) ?_
 refine yZ ?_
 refine qQ ?_
 refine qK ?_
 refine yJ ?_
 refine qK ?_
 refine qZ ?_
 refine qY (qU rfl) rfl rfl rfl ?_
 refine qY (qX rfl) rfl rfl rfl ?_
 refine qJ ?_
 refine qQ ?_
 refine qZ ?_
 refine qY (qU rfl) rfl rfl rfl ?_
 refine qY (qU rfl) rfl rfl rfl ?_
 refine qY (qW ar39 rfl rfl (by first | decide | omega) (by first | decide | omega)) rfl rfl rfl ?_
 refine qY (zY 1 ty2 rfl rfl rfl) rfl rfl rfl ?_
 refine jW (F := iv) (zQ en99 rfl (fun w _ => iOf _  w)) rfl rfl rfl ?_; intro r12_3 hr12_3
 refine qY (qW ar75 rfl rfl (by first | decide | omega) (by first | decide | omega)) rfl rfl rfl ?_
 refine qG 3 ty71 rfl rfl rfl rfl rfl rfl rfl rfl ?_
 refine qJ ?_
 refine zZ ?_
 refine qQ ?_
 refine qZ ?_
 refine qY (yK rfl rfl (by first | exact zW ⟨by omega, by omega⟩ | rfl)) rfl rfl rfl ?_
 refine qY (qU rfl) rfl rfl rfl ?_
 refine qJ ?_
 refine jJ ?_
 refine kZ ?_
 refine qK ?_
 refine qZ ?_
 refine qY (kX rfl rfl) rfl rfl rfl ?_
 refine qJ ?_
 refine qQ ?_
 refine qK ?_
 refine qJX rfl (by decide) ?_
 refine qUK ?_
 refine jV ?_
 refine jV ?_
 refine uY ?_
 refine qQ ?_
 refine qK ?_
 refine qZ ?_
 refine qY (zJ 3 ty75 rfl rfl rfl) rfl rfl rfl ?_
 refine qG 2 ty75 rfl rfl rfl rfl rfl rfl rfl rfl ?_
 refine qJ ?_
 refine qQ ?_
 refine zV ?_
 refine zK (rs := [.cell 2 75]) rfl (resC (zU 2 rfl rfl ty75 rfl) (resN)) (congrArg (v3) (?_ : ⟨⟨_, _⟩, ⟨_, _⟩, ⟨_, _⟩⟩ = V3.of (⟨p0, p1, p2⟩ : Z3)))
 subst_vars; rfl
theorem zYK (p0 p1 p2 : Int) (w : World) : Calls Tryz.prog 33 [.agg #[.int .i64 p0, .int .i64 p1, .int .i64 p2]].toArray w (Rets (v3 (V3.of (⟨p0, p1, p2⟩ : Z3))) (w)) := by
 refine zX (n := 13) Tryz.func33 rfl rfl rfl ?_
 refine qK ?_
 refine qZ ?_
 refine kY 1 rfl rfl rfl rfl ?_; intro b1
 refine yQ 2 ze75 rfl rfl rfl ?_; intro b2
 refine qJ ?_
 refine qQ ?_
 refine qK ?_
 refine yY 10 mo (by kernel_rfl) ?_
 simp only [List.take_succ_cons, List.take_zero, List.drop_succ_cons, List.drop_zero]
 refine qH (qW ar39 rfl rfl (by first | decide | omega) (by first | decide | omega)) rfl rfl rfl ?_
 refine qH (zY 1 ty2 rfl rfl rfl) rfl rfl rfl ?_
 refine yV (F := iv) (zQ en31 rfl (fun w _ => rOf _  w)) rfl rfl rfl ?_; intro r5 hr5
 refine qH (qW ar39 rfl rfl (by first | decide | omega) (by first | decide | omega)) rfl rfl rfl ?_
 refine qH (zY 1 ty2 rfl rfl rfl) rfl rfl rfl ?_
 refine yV (F := iv) (zQ en31 rfl (fun w _ => rOf _  w)) rfl rfl rfl ?_; intro r8 hr8
 refine qH (qW ar39 rfl rfl (by first | decide | omega) (by first | decide | omega)) rfl rfl rfl ?_
 refine qH (zY 1 ty2 rfl rfl rfl) rfl rfl rfl ?_
 refine yV (F := iv) (zQ en31 rfl (fun w _ => rOf _  w)) rfl rfl rfl ?_; intro r11 hr11
 refine qH (zH la75 rfl rfl) rfl rfl rfl ?_
 refine jX ?_
 refine yU ?_
 refine qG 2 ty75 rfl rfl rfl rfl rfl rfl rfl rfl ?_
 refine qJ ?_
 refine qQ ?_
 refine zV ?_
 refine zK (rs := [.cell 2 75]) rfl (resC (zU 2 rfl rfl ty75 rfl) (resN)) (congrArg (v3) (?_ : ⟨⟨_, _⟩, ⟨_, _⟩, ⟨_, _⟩⟩ = V3.of (⟨p0, p1, p2⟩ : Z3)))
 subst_vars; rfl
theorem mAdd (p0 p1 p2 p3 p4 p5 : Int) (q0 q1 q2 q3 q4 q5 : Int) (w : World) : Calls Tryz.prog 140 [.agg #[.int .i64 p0, .int .i64 p1, .int .i64 p2, .int .i64 p3, .int .i64 p4, .int .i64 p5], .agg #[.int .i64 q0, .int .i64 q1, .int .i64 q2, .int .i64 q3, .int .i64 q4, .int .i64 q5]].toArray w (Rets (v3 (V3.add (⟨⟨p0, p1⟩, ⟨p2, p3⟩, ⟨p4, p5⟩⟩ : V3) (⟨⟨q0, q1⟩, ⟨q2, q3⟩, ⟨q4, q5⟩⟩ : V3))) (w)) := by
 refine zX (n := 21) Tryz.func140 rfl rfl rfl ?_
 refine qK ?_
 refine qZ ?_
 refine kY 2 rfl rfl rfl rfl ?_; intro b2
 refine kY 3 rfl rfl rfl rfl ?_; intro b3
 refine yQ 4 ze75 rfl rfl rfl ?_; intro b4
 refine qJ ?_
 refine qQ ?_
 refine qK ?_
 refine qZ ?_
 refine yQ 5 ze75 rfl rfl rfl ?_; intro b5
 refine qJ ?_
 refine qQ ?_
 refine qK ?_
 refine qK ?_
 refine qZ ?_
 refine qY (qU rfl) rfl rfl rfl ?_
 refine qJ ?_
 refine qQ ?_
 refine yJ ?_
 refine qXV 4 ?_
 refine kZ ?_
 refine qK ?_
 refine qZ ?_
 refine qY (kX rfl rfl) rfl rfl rfl ?_
 refine qJ ?_
 refine qQ ?_
 refine qK ?_
 refine yX rfl (by decide) ?_
 refine yZ ?_
 refine qQ ?_
 refine qK ?_
 refine yJ ?_
 refine qK ?_
 refine qZ ?_
 refine qY (qU rfl) rfl rfl rfl ?_
 refine qY (qX rfl) rfl rfl rfl ?_
 refine qJ ?_
 refine qQ ?_
 refine yY 9 mo (by kernel_rfl) ?_
 simp only [List.take_succ_cons, List.take_zero, List.drop_succ_cons, List.drop_zero]
 refine qH (qU rfl) rfl rfl rfl ?_
 refine qH (qU rfl) rfl rfl rfl ?_
 refine qH (qW ar75 rfl rfl (by first | decide | omega) (by first | decide | omega)) rfl rfl rfl ?_
 refine qH (zJ 2 ty71 rfl rfl rfl) rfl rfl rfl ?_
 refine qH (qU rfl) rfl rfl rfl ?_
 refine qH (qW ar75 rfl rfl (by first | decide | omega) (by first | decide | omega)) rfl rfl rfl ?_
 refine qH (zJ 3 ty71 rfl rfl rfl) rfl rfl rfl ?_
 refine yV (F := iv) (zQ en142 rfl (fun w _ => iAdd _ _ _ _  w)) rfl rfl rfl ?_; intro r17 hr17
 refine qH (qW ar75 rfl rfl (by first | decide | omega) (by first | decide | omega)) rfl rfl rfl ?_
 refine jX ?_
 refine yU ?_
 refine qG 5 ty71 rfl rfl rfl rfl rfl rfl rfl rfl ?_
 refine qJ ?_
 refine zZ ?_
 refine qQ ?_
 refine qZ ?_
 refine qY (yK rfl rfl (by first | exact zW ⟨by omega, by omega⟩ | rfl)) rfl rfl rfl ?_
 refine qY (qU rfl) rfl rfl rfl ?_
 refine qJ ?_
 refine jJ ?_
 refine kZ ?_
 refine qK ?_
 refine qZ ?_
 refine qY (kX rfl rfl) rfl rfl rfl ?_
 refine qJ ?_
 refine qQ ?_
 refine qK ?_
 refine yX rfl (by decide) ?_
 refine yZ ?_
 refine qQ ?_
 refine qK ?_
 refine yJ ?_
 refine qK ?_
 refine qZ ?_
 refine qY (qU rfl) rfl rfl rfl ?_
 refine qY (qX rfl) rfl rfl rfl ?_
 refine qJ ?_
 refine qQ ?_
 refine yY 9 mo (by kernel_rfl) ?_
 simp only [List.take_succ_cons, List.take_zero, List.drop_succ_cons, List.drop_zero]
 refine qH (qU rfl) rfl rfl rfl ?_
 refine qH (qU rfl) rfl rfl rfl ?_
 refine qH (qW ar75 rfl rfl (by first | decide | omega) (by first | decide | omega)) rfl rfl rfl ?_
 refine qH (zJ 2 ty71 rfl rfl rfl) rfl rfl rfl ?_
 refine qH (qU rfl) rfl rfl rfl ?_
 refine qH (qW ar75 rfl rfl (by first | decide | omega) (by first | decide | omega)) rfl rfl rfl ?_
 refine qH (zJ 3 ty71 rfl rfl rfl) rfl rfl rfl ?_
 refine yV (F := iv) (zQ en142 rfl (fun w _ => iAdd _ _ _ _  w)) rfl rfl rfl ?_; intro r17_2 hr17_2
 refine qH (qW ar75 rfl rfl (by first | decide | omega) (by first | decide | omega)) rfl rfl rfl ?_
 refine jX ?_
 refine yU ?_
 refine qG 5 ty71 rfl rfl rfl rfl rfl rfl rfl rfl ?_
 refine qJ ?_
 refine zZ ?_
 refine qQ ?_
 refine qZ ?_
 refine qY (yK rfl rfl (by first | exact zW ⟨by omega, by omega⟩ | rfl)) rfl rfl rfl ?_
 refine qY (qU rfl) rfl rfl rfl ?_
 refine qJ ?_
 refine jJ ?_
 refine kZ ?_
 refine qK ?_
 refine qZ ?_
 refine qY (kX rfl rfl) rfl rfl rfl ?_
 refine qJ ?_
 refine qQ ?_
 refine qK ?_
 refine yX rfl (by decide) ?_
 refine yZ ?_
 refine qQ ?_
 refine qK ?_
 refine yJ ?_
 refine qK ?_
 refine qZ ?_
 refine qY (qU rfl) rfl rfl rfl ?_
 refine qY (qX rfl) rfl rfl rfl ?_
 refine qJ ?_
 refine qQ ?_
 refine yY 9 mo (by kernel_rfl) ?_
 simp only [List.take_succ_cons, List.take_zero, List.drop_succ_cons, List.drop_zero]
 refine qH (qU rfl) rfl rfl rfl ?_
 refine qH (qU rfl) rfl rfl rfl ?_
 refine qH (qW ar75 rfl rfl (by first | decide | omega) (by first | decide | omega)) rfl rfl rfl ?_
 refine qH (zJ 2 ty71 rfl rfl rfl) rfl rfl rfl ?_
 refine qH (qU rfl) rfl rfl rfl ?_
 refine qH (qW ar75 rfl rfl (by first | decide | omega) (by first | decide | omega)) rfl rfl rfl ?_
 refine qH (zJ 3 ty71 rfl rfl rfl) rfl rfl rfl ?_
 refine yV (F := iv) (zQ en142 rfl (fun w _ => iAdd _ _ _ _  w)) rfl rfl rfl ?_; intro r17_3 hr17_3
 refine qH (qW ar75 rfl rfl (by first | decide | omega) (by first | decide | omega)) rfl rfl rfl ?_
 refine jX ?_
 refine yU ?_
 refine qG 5 ty71 rfl rfl rfl rfl rfl rfl rfl rfl ?_
 refine qJ ?_
 refine zZ ?_
 refine qQ ?_
 refine qZ ?_
 refine qY (yK rfl rfl (by first | exact zW ⟨by omega, by omega⟩ | rfl)) rfl rfl rfl ?_
 refine qY (qU rfl) rfl rfl rfl ?_
 refine qJ ?_
 refine jJ ?_
 refine kZ ?_
 refine qK ?_
 refine qZ ?_
 refine qY (kX rfl rfl) rfl rfl rfl ?_
 refine qJ ?_
 refine qQ ?_
 refine qK ?_
 refine qJX rfl (by decide) ?_
 refine qUK ?_
 refine jV ?_
 refine jV ?_
 refine uY ?_
 refine qQ ?_
 refine qK ?_
 refine qZ ?_
 refine qY (zJ 5 ty75 rfl rfl rfl) rfl rfl rfl ?_
 refine qG 4 ty75 rfl rfl rfl rfl rfl rfl rfl rfl ?_
 refine qJ ?_
 refine qQ ?_
 refine zV ?_
 refine zK (rs := [.cell 4 75]) rfl (resC (zU 4 rfl rfl ty75 rfl) (resN)) (congrArg (v3) (?_ : ⟨⟨_, _⟩, ⟨_, _⟩, ⟨_, _⟩⟩ = V3.add (⟨⟨p0, p1⟩, ⟨p2, p3⟩, ⟨p4, p5⟩⟩ : V3) (⟨⟨q0, q1⟩, ⟨q2, q3⟩, ⟨q4, q5⟩⟩ : V3)))
 subst_vars; rfl
theorem rAddVec (p0 p1 p2 p3 p4 p5 : Int) (q0 q1 q2 q3 q4 q5 : Int) (w : World) : Calls Tryz.prog 62 [.agg #[.int .i64 p0, .int .i64 p1, .int .i64 p2, .int .i64 p3, .int .i64 p4, .int .i64 p5], .agg #[.int .i64 q0, .int .i64 q1, .int .i64 q2, .int .i64 q3, .int .i64 q4, .int .i64 q5]].toArray w (Rets (v3 (V3.add (⟨⟨p0, p1⟩, ⟨p2, p3⟩, ⟨p4, p5⟩⟩ : V3) (⟨⟨q0, q1⟩, ⟨q2, q3⟩, ⟨q4, q5⟩⟩ : V3))) (w)) := by
 refine zX (n := 21) Tryz.func62 rfl rfl rfl ?_
 refine qK ?_
 refine qZ ?_
 refine kY 2 rfl rfl rfl rfl ?_; intro b2
 refine kY 3 rfl rfl rfl rfl ?_; intro b3
 refine yQ 4 ze75 rfl rfl rfl ?_; intro b4
 refine qJ ?_
 refine qQ ?_
 refine qK ?_
 refine yY 16 mo (by kernel_rfl) ?_
 simp only [List.take_succ_cons, List.take_zero, List.drop_succ_cons, List.drop_zero]
 refine qH (qW ar75 rfl rfl (by first | decide | omega) (by first | decide | omega)) rfl rfl rfl ?_
 refine qH (zJ 2 ty71 rfl rfl rfl) rfl rfl rfl ?_
 refine qH (qW ar75 rfl rfl (by first | decide | omega) (by first | decide | omega)) rfl rfl rfl ?_
 refine qH (zJ 3 ty71 rfl rfl rfl) rfl rfl rfl ?_
 refine yV (F := iv) (zQ en103 rfl (fun w _ => rAdd _ _ _ _  w)) rfl rfl rfl ?_; intro r9 hr9
 refine qH (qW ar75 rfl rfl (by first | decide | omega) (by first | decide | omega)) rfl rfl rfl ?_
 refine qH (zJ 2 ty71 rfl rfl rfl) rfl rfl rfl ?_
 refine qH (qW ar75 rfl rfl (by first | decide | omega) (by first | decide | omega)) rfl rfl rfl ?_
 refine qH (zJ 3 ty71 rfl rfl rfl) rfl rfl rfl ?_
 refine yV (F := iv) (zQ en103 rfl (fun w _ => rAdd _ _ _ _  w)) rfl rfl rfl ?_; intro r14 hr14
 refine qH (qW ar75 rfl rfl (by first | decide | omega) (by first | decide | omega)) rfl rfl rfl ?_
 refine qH (zJ 2 ty71 rfl rfl rfl) rfl rfl rfl ?_
 refine qH (qW ar75 rfl rfl (by first | decide | omega) (by first | decide | omega)) rfl rfl rfl ?_
 refine qH (zJ 3 ty71 rfl rfl rfl) rfl rfl rfl ?_
 refine yV (F := iv) (zQ en103 rfl (fun w _ => rAdd _ _ _ _  w)) rfl rfl rfl ?_; intro r19 hr19
 refine qH (zH la75 rfl rfl) rfl rfl rfl ?_
 refine jX ?_
 refine yU ?_
 refine qG 4 ty75 rfl rfl rfl rfl rfl rfl rfl rfl ?_
 refine qJ ?_
 refine qQ ?_
 refine zV ?_
 refine zK (rs := [.cell 4 75]) rfl (resC (zU 4 rfl rfl ty75 rfl) (resN)) (congrArg (v3) (?_ : ⟨⟨_, _⟩, ⟨_, _⟩, ⟨_, _⟩⟩ = V3.add (⟨⟨p0, p1⟩, ⟨p2, p3⟩, ⟨p4, p5⟩⟩ : V3) (⟨⟨q0, q1⟩, ⟨q2, q3⟩, ⟨q4, q5⟩⟩ : V3)))
 subst_vars; rfl
theorem mIdentity  (w : World) : Calls Tryz.prog 98 [].toArray w (Rets (m3 (M3.unit)) (w)) := by
 refine zX (n := 13) Tryz.func98 rfl rfl rfl ?_
 refine qK ?_
 refine qZ ?_
 refine yQ 0 ze74 rfl rfl rfl ?_; intro b0
 refine qJ ?_
 refine qQ ?_
 refine qK ?_
 refine qZ ?_
 refine yQ 1 ze74 rfl rfl rfl ?_; intro b1
 refine qJ ?_
 refine qQ ?_
 refine qK ?_
 refine qK ?_
 refine qZ ?_
 refine qY (qU rfl) rfl rfl rfl ?_
 refine qJ ?_
 refine qQ ?_
 refine yJ ?_
 refine qXV 4 ?_
 refine kZ ?_
 refine qK ?_
 refine qZ ?_
 refine qY (kX rfl rfl) rfl rfl rfl ?_
 refine qJ ?_
 refine qQ ?_
 refine qK ?_
 refine yX rfl (by decide) ?_
 refine yZ ?_
 refine qQ ?_
 refine qK ?_
 refine yJ ?_
 refine qK ?_
 refine qZ ?_
 refine qY (qU rfl) rfl rfl rfl ?_
 refine qY (qX rfl) rfl rfl rfl ?_
 refine qJ ?_
 refine qQ ?_
 refine yY 5 mo (by kernel_rfl) ?_
 simp only [List.take_succ_cons, List.take_zero, List.drop_succ_cons, List.drop_zero]
 refine qH (qU rfl) rfl rfl rfl ?_
 refine qH (qU rfl) rfl rfl rfl ?_
 refine yV (F := iv) (zQ en99 rfl (fun w _ => iOf _  w)) rfl rfl rfl ?_; intro r8 hr8
 refine qH (qW ar74 rfl rfl (by first | decide | omega) (by first | decide | omega)) rfl rfl rfl ?_
 refine qH (qW ar72 rfl rfl (by first | decide | omega) (by first | decide | omega)) rfl rfl rfl ?_
 refine jX ?_
 refine yU ?_
 refine qG 1 ty71 rfl rfl rfl rfl rfl rfl rfl rfl ?_
 refine qJ ?_
 refine zZ ?_
 refine qQ ?_
 refine qZ ?_
 refine qY (yK rfl rfl (by first | exact zW ⟨by omega, by omega⟩ | rfl)) rfl rfl rfl ?_
 refine qY (qU rfl) rfl rfl rfl ?_
 refine qJ ?_
 refine jJ ?_
 refine kZ ?_
 refine qK ?_
 refine qZ ?_
 refine qY (kX rfl rfl) rfl rfl rfl ?_
 refine qJ ?_
 refine qQ ?_
 refine qK ?_
 refine yX rfl (by decide) ?_
 refine yZ ?_
 refine qQ ?_
 refine qK ?_
 refine yJ ?_
 refine qK ?_
 refine qZ ?_
 refine qY (qU rfl) rfl rfl rfl ?_
 refine qY (qX rfl) rfl rfl rfl ?_
 refine qJ ?_
 refine qQ ?_
 refine yY 5 mo (by kernel_rfl) ?_
 simp only [List.take_succ_cons, List.take_zero, List.drop_succ_cons, List.drop_zero]
 refine qH (qU rfl) rfl rfl rfl ?_
 refine qH (qU rfl) rfl rfl rfl ?_
 refine yV (F := iv) (zQ en99 rfl (fun w _ => iOf _  w)) rfl rfl rfl ?_; intro r8_2 hr8_2
 refine qH (qW ar74 rfl rfl (by first | decide | omega) (by first | decide | omega)) rfl rfl rfl ?_
 refine qH (qW ar72 rfl rfl (by first | decide | omega) (by first | decide | omega)) rfl rfl rfl ?_
 refine jX ?_
 refine yU ?_
 refine qG 1 ty71 rfl rfl rfl rfl rfl rfl rfl rfl ?_
 refine qJ ?_
 refine zZ ?_
 refine qQ ?_
 refine qZ ?_
 refine qY (yK rfl rfl (by first | exact zW ⟨by omega, by omega⟩ | rfl)) rfl rfl rfl ?_
 refine qY (qU rfl) rfl rfl rfl ?_
 refine qJ ?_
 refine jJ ?_
 refine kZ ?_
 refine qK ?_
 refine qZ ?_
 refine qY (kX rfl rfl) rfl rfl rfl ?_
 refine qJ ?_
 refine qQ ?_
 refine qK ?_
 refine yX rfl (by decide) ?_
 refine yZ ?_
 refine qQ ?_
 refine qK ?_
 refine yJ ?_
 refine qK ?_
 refine qZ ?_
 refine qY (qU rfl) rfl rfl rfl ?_
 refine qY (qX rfl) rfl rfl rfl ?_
 refine qJ ?_
 refine qQ ?_
 refine yY 5 mo (by kernel_rfl) ?_
 simp only [List.take_succ_cons, List.take_zero, List.drop_succ_cons, List.drop_zero]
 refine qH (qU rfl) rfl rfl rfl ?_
 refine qH (qU rfl) rfl rfl rfl ?_
 refine yV (F := iv) (zQ en99 rfl (fun w _ => iOf _  w)) rfl rfl rfl ?_; intro r8_3 hr8_3
 refine qH (qW ar74 rfl rfl (by first | decide | omega) (by first | decide | omega)) rfl rfl rfl ?_
 refine qH (qW ar72 rfl rfl (by first | decide | omega) (by first | decide | omega)) rfl rfl rfl ?_
 refine jX ?_
 refine yU ?_
 refine qG 1 ty71 rfl rfl rfl rfl rfl rfl rfl rfl ?_
 refine qJ ?_
 refine zZ ?_
 refine qQ ?_
 refine qZ ?_
 refine qY (yK rfl rfl (by first | exact zW ⟨by omega, by omega⟩ | rfl)) rfl rfl rfl ?_
 refine qY (qU rfl) rfl rfl rfl ?_
 refine qJ ?_
 refine jJ ?_
 refine kZ ?_
 refine qK ?_
 refine qZ ?_
 refine qY (kX rfl rfl) rfl rfl rfl ?_
 refine qJ ?_
 refine qQ ?_
 refine qK ?_
 refine qJX rfl (by decide) ?_
 refine qUK ?_
 refine jV ?_
 refine jV ?_
 refine uY ?_
 refine qQ ?_
 refine qK ?_
 refine qZ ?_
 refine qY (zJ 1 ty74 rfl rfl rfl) rfl rfl rfl ?_
 refine qG 0 ty74 rfl rfl rfl rfl rfl rfl rfl rfl ?_
 refine qJ ?_
 refine qQ ?_
 refine zV ?_
 refine zK (rs := [.cell 0 74]) rfl (resC (zU 0 rfl rfl ty74 rfl) (resN)) (congrArg (m3) (?_ : ⟨⟨⟨_, _⟩, ⟨_, _⟩, ⟨_, _⟩⟩, ⟨⟨_, _⟩, ⟨_, _⟩, ⟨_, _⟩⟩, ⟨⟨_, _⟩, ⟨_, _⟩, ⟨_, _⟩⟩⟩ = M3.unit))
 subst_vars; rfl
theorem rUnit  (w : World) : Calls Tryz.prog 118 [].toArray w (Rets (m3 (M3.unit)) (w)) := by
 refine zX (n := 16) Tryz.func118 rfl rfl rfl ?_
 refine qK ?_
 refine qZ ?_
 refine yQ 0 ze74 rfl rfl rfl ?_; intro b0
 refine qJ ?_
 refine qQ ?_
 refine qK ?_
 refine qZ ?_
 refine jW (F := iv) (zQ en31 rfl (fun w _ => rOf _  w)) rfl rfl rfl ?_; intro r2 hr2
 refine yQ 1 ze71 rfl rfl rfl ?_; intro b1
 refine qG 1 ty71 rfl rfl rfl rfl rfl rfl rfl rfl ?_
 refine qJ ?_
 refine qQ ?_
 refine qK ?_
 refine qZ ?_
 refine qY (zJ 1 ty71 rfl rfl rfl) rfl rfl rfl ?_
 refine qY (zH la71 rfl rfl) rfl rfl rfl ?_
 refine qY (zH la71 rfl rfl) rfl rfl rfl ?_
 refine qY (zH la72 rfl rfl) rfl rfl rfl ?_
 refine qY (zH la71 rfl rfl) rfl rfl rfl ?_
 refine qY (zJ 1 ty71 rfl rfl rfl) rfl rfl rfl ?_
 refine qY (zH la71 rfl rfl) rfl rfl rfl ?_
 refine qY (zH la72 rfl rfl) rfl rfl rfl ?_
 refine qY (zH la71 rfl rfl) rfl rfl rfl ?_
 refine qY (zH la71 rfl rfl) rfl rfl rfl ?_
 refine qY (zJ 1 ty71 rfl rfl rfl) rfl rfl rfl ?_
 refine qY (zH la72 rfl rfl) rfl rfl rfl ?_
 refine qY (zH la74 rfl rfl) rfl rfl rfl ?_
 refine qG 0 ty74 rfl rfl rfl rfl rfl rfl rfl rfl ?_
 refine qJ ?_
 refine qQ ?_
 refine zV ?_
 refine zK (rs := [.cell 0 74]) rfl (resC (zU 0 rfl rfl ty74 rfl) (resN)) (congrArg (m3) (?_ : ⟨⟨⟨_, _⟩, ⟨_, _⟩, ⟨_, _⟩⟩, ⟨⟨_, _⟩, ⟨_, _⟩, ⟨_, _⟩⟩, ⟨⟨_, _⟩, ⟨_, _⟩, ⟨_, _⟩⟩⟩ = M3.unit))
 subst_vars; rfl
theorem mTurn (axis : Int) (a0 a1 : Int) (w : World) : Calls Tryz.prog 162 [.int .i64 axis, .agg #[.int .i64 a0, .int .i64 a1]].toArray w (Rets (m3 (M3.turn axis (⟨a0, a1⟩ : Iv))) (w)) := by
 refine zX (n := 69) Tryz.func162 rfl rfl rfl ?_
 refine qK ?_
 refine qZ ?_
 refine kY 3 rfl rfl rfl rfl ?_; intro b3
 refine yQ 4 ze74 rfl rfl rfl ?_; intro b4
 refine qJ ?_
 refine qQ ?_
 refine qK ?_
 refine qK ?_
 refine qZ ?_
 refine qY (zJ 3 ty71 rfl rfl rfl) rfl rfl rfl ?_
 refine jW (F := vB) (zQ en107 rfl (fun w _ => zYG _ _  w)) rfl rfl rfl ?_; intro r11 hr11
 refine qY (qUX rfl) rfl rfl rfl ?_
 refine qJ ?_
 refine qQ ?_
 refine yH rfl (fun hc12 => ?_) (fun hc12 => ?_)
 ·
  refine qK ?_
  refine qZ ?_
  refine qY (zH la74 rfl rfl) rfl rfl rfl ?_
  refine qG 4 ty74 rfl rfl rfl rfl rfl rfl rfl rfl ?_
  refine qJ ?_
  refine qQ ?_
  refine zV ?_
  refine jK ?_
  refine zK (rs := [.cell 4 74]) rfl (resC (zU 4 rfl rfl ty74 rfl) (resN)) (congrArg (m3) (?_ : ⟨⟨⟨_, _⟩, ⟨_, _⟩, ⟨_, _⟩⟩, ⟨⟨_, _⟩, ⟨_, _⟩, ⟨_, _⟩⟩, ⟨⟨_, _⟩, ⟨_, _⟩, ⟨_, _⟩⟩⟩ = M3.turn axis (⟨a0, a1⟩ : Iv)))
  subst_vars; simp_all [M3.turn, zZX, qHH, M3.zero, iv0, iv1]
 ·
  refine yZ ?_
  refine qQ ?_
  refine qK ?_
  refine yY 6 mo (by kernel_rfl) ?_
  simp only [List.take_succ_cons, List.take_zero, List.drop_succ_cons, List.drop_zero]
  refine qH (zJ 3 ty71 rfl rfl rfl) rfl rfl rfl ?_
  refine yV (F := iv) (zQ en169 rfl (fun w _ => aCosOver _ _  w)) rfl rfl rfl ?_; intro r15 hr15
  refine qH (zJ 3 ty71 rfl rfl rfl) rfl rfl rfl ?_
  refine yV (F := iv) (zQ en170 rfl (fun w _ => aSinOver _ _  w)) rfl rfl rfl ?_; intro r17 hr17
  refine doG_alloc ze71 rfl rfl rfl rfl ?_
  refine doG_alloc ze71 rfl rfl rfl rfl ?_
  refine jX ?_
  refine qVK 6 rfl ?_; intro b6_2
  refine qVK 5 rfl ?_; intro b5_2
  refine yU ?_
  refine qG 5 ty71 rfl rfl rfl rfl rfl rfl rfl rfl ?_
  refine qG 6 ty71 rfl rfl rfl rfl rfl rfl rfl rfl ?_
  refine qJ ?_
  refine qQ ?_
  refine qK ?_
  refine qZ ?_
  refine qY (zJ 6 ty71 rfl rfl rfl) rfl rfl rfl ?_
  refine jW (F := iv) (zQ en171 rfl (fun w _ => iNeg _ _  w)) rfl rfl rfl ?_; intro r19 hr19
  refine jW (F := iv) (zQ en99 rfl (fun w _ => iOf _  w)) rfl rfl rfl ?_; intro r20 hr20
  refine jW (F := iv) (zQ en99 rfl (fun w _ => iOf _  w)) rfl rfl rfl ?_; intro r21 hr21
  refine yQ 7 ze71 rfl rfl rfl ?_; intro b7
  refine yQ 8 ze71 rfl rfl rfl ?_; intro b8
  refine yQ 9 ze71 rfl rfl rfl ?_; intro b9
  refine qG 7 ty71 rfl rfl rfl rfl rfl rfl rfl rfl ?_
  refine qG 8 ty71 rfl rfl rfl rfl rfl rfl rfl rfl ?_
  refine qG 9 ty71 rfl rfl rfl rfl rfl rfl rfl rfl ?_
  refine qJ ?_
  refine qQ ?_
  refine qK ?_
  refine qK ?_
  refine qZ ?_
  refine qY (qU rfl) rfl rfl rfl ?_
  refine qJ ?_
  refine qQ ?_
  refine yJ ?_
  refine qK ?_
  refine qZ ?_
  refine qY (uX rfl rfl) rfl rfl rfl ?_
  refine qY (qX rfl) rfl rfl rfl ?_
  refine qJ ?_
  refine qQ ?_
  refine yH rfl (fun hc23 => ?_) (fun hc23 => ?_)
  ·
   refine qK ?_
   refine qZ ?_
   refine qY (zJ 8 ty71 rfl rfl rfl) rfl rfl rfl ?_
   refine qY (zJ 9 ty71 rfl rfl rfl) rfl rfl rfl ?_
   refine qY (zJ 9 ty71 rfl rfl rfl) rfl rfl rfl ?_
   refine qY (zH la72 rfl rfl) rfl rfl rfl ?_
   refine qY (zJ 9 ty71 rfl rfl rfl) rfl rfl rfl ?_
   refine qY (zJ 5 ty71 rfl rfl rfl) rfl rfl rfl ?_
   refine qY (zJ 7 ty71 rfl rfl rfl) rfl rfl rfl ?_
   refine qY (zH la72 rfl rfl) rfl rfl rfl ?_
   refine qY (zJ 9 ty71 rfl rfl rfl) rfl rfl rfl ?_
   refine qY (zJ 6 ty71 rfl rfl rfl) rfl rfl rfl ?_
   refine qY (zJ 5 ty71 rfl rfl rfl) rfl rfl rfl ?_
   refine qY (zH la72 rfl rfl) rfl rfl rfl ?_
   refine qY (zH la74 rfl rfl) rfl rfl rfl ?_
   refine qG 4 ty74 rfl rfl rfl rfl rfl rfl rfl rfl ?_
   refine qJ ?_
   refine qQ ?_
   refine zV ?_
   refine kU ?_
   refine jK ?_
   refine zK (rs := [.cell 4 74]) rfl (resC (zU 4 rfl rfl ty74 rfl) (resN)) (congrArg (m3) (?_ : ⟨⟨⟨_, _⟩, ⟨_, _⟩, ⟨_, _⟩⟩, ⟨⟨_, _⟩, ⟨_, _⟩, ⟨_, _⟩⟩, ⟨⟨_, _⟩, ⟨_, _⟩, ⟨_, _⟩⟩⟩ = M3.turn axis (⟨a0, a1⟩ : Iv)))
   subst_vars; simp_all [M3.turn, zZX, qHH, M3.zero, iv0, iv1]
  ·
   refine qK ?_
   refine qZ ?_
   refine qY (uX rfl rfl) rfl rfl rfl ?_
   refine qY (qX rfl) rfl rfl rfl ?_
   refine qJ ?_
   refine qQ ?_
   refine yH rfl (fun hc38 => ?_) (fun hc38 => ?_)
   ·
    refine qK ?_
    refine qZ ?_
    refine qY (zJ 5 ty71 rfl rfl rfl) rfl rfl rfl ?_
    refine qY (zJ 9 ty71 rfl rfl rfl) rfl rfl rfl ?_
    refine qY (zJ 6 ty71 rfl rfl rfl) rfl rfl rfl ?_
    refine qY (zH la72 rfl rfl) rfl rfl rfl ?_
    refine qY (zJ 9 ty71 rfl rfl rfl) rfl rfl rfl ?_
    refine qY (zJ 8 ty71 rfl rfl rfl) rfl rfl rfl ?_
    refine qY (zJ 9 ty71 rfl rfl rfl) rfl rfl rfl ?_
    refine qY (zH la72 rfl rfl) rfl rfl rfl ?_
    refine qY (zJ 7 ty71 rfl rfl rfl) rfl rfl rfl ?_
    refine qY (zJ 9 ty71 rfl rfl rfl) rfl rfl rfl ?_
    refine qY (zJ 5 ty71 rfl rfl rfl) rfl rfl rfl ?_
    refine qY (zH la72 rfl rfl) rfl rfl rfl ?_
    refine qY (zH la74 rfl rfl) rfl rfl rfl ?_
    refine qG 4 ty74 rfl rfl rfl rfl rfl rfl rfl rfl ?_
    refine qJ ?_
    refine qQ ?_
    refine zV ?_
    refine kU ?_
    refine jK ?_
    refine zK (rs := [.cell 4 74]) rfl (resC (zU 4 rfl rfl ty74 rfl) (resN)) (congrArg (m3) (?_ : ⟨⟨⟨_, _⟩, ⟨_, _⟩, ⟨_, _⟩⟩, ⟨⟨_, _⟩, ⟨_, _⟩, ⟨_, _⟩⟩, ⟨⟨_, _⟩, ⟨_, _⟩, ⟨_, _⟩⟩⟩ = M3.turn axis (⟨a0, a1⟩ : Iv)))
    subst_vars; simp_all [M3.turn, zZX, qHH, M3.zero, iv0, iv1]
   ·
    refine qK ?_
    refine qZ ?_
    refine qY (uX rfl rfl) rfl rfl rfl ?_
    refine qY (qX rfl) rfl rfl rfl ?_
    refine qJ ?_
    refine qQ ?_
    refine yH rfl (fun hc53 => ?_) (fun hc53 => ?_)
    ·
     refine qK ?_
     refine qZ ?_
     refine qY (zJ 5 ty71 rfl rfl rfl) rfl rfl rfl ?_
     refine qY (zJ 7 ty71 rfl rfl rfl) rfl rfl rfl ?_
     refine qY (zJ 9 ty71 rfl rfl rfl) rfl rfl rfl ?_
     refine qY (zH la72 rfl rfl) rfl rfl rfl ?_
     refine qY (zJ 6 ty71 rfl rfl rfl) rfl rfl rfl ?_
     refine qY (zJ 5 ty71 rfl rfl rfl) rfl rfl rfl ?_
     refine qY (zJ 9 ty71 rfl rfl rfl) rfl rfl rfl ?_
     refine qY (zH la72 rfl rfl) rfl rfl rfl ?_
     refine qY (zJ 9 ty71 rfl rfl rfl) rfl rfl rfl ?_
     refine qY (zJ 9 ty71 rfl rfl rfl) rfl rfl rfl ?_
     refine qY (zJ 8 ty71 rfl rfl rfl) rfl rfl rfl ?_
     refine qY (zH la72 rfl rfl) rfl rfl rfl ?_
     refine qY (zH la74 rfl rfl) rfl rfl rfl ?_
     refine qG 4 ty74 rfl rfl rfl rfl rfl rfl rfl rfl ?_
     refine qJ ?_
     refine qQ ?_
     refine zV ?_
     refine kU ?_
     refine jK ?_
     refine zK (rs := [.cell 4 74]) rfl (resC (zU 4 rfl rfl ty74 rfl) (resN)) (congrArg (m3) (?_ : ⟨⟨⟨_, _⟩, ⟨_, _⟩, ⟨_, _⟩⟩, ⟨⟨_, _⟩, ⟨_, _⟩, ⟨_, _⟩⟩, ⟨⟨_, _⟩, ⟨_, _⟩, ⟨_, _⟩⟩⟩ = M3.turn axis (⟨a0, a1⟩ : Iv)))
     subst_vars; simp_all [M3.turn, zZX, qHH, M3.zero, iv0, iv1]
    ·
     refine yZ ?_
     refine zZ ?_
     refine qQ ?_
     refine qK ?_
     refine qZ ?_
     refine qY (zH la74 rfl rfl) rfl rfl rfl ?_
     refine qG 4 ty74 rfl rfl rfl rfl rfl rfl rfl rfl ?_
     refine qJ ?_
     refine qQ ?_
     refine zV ?_
     refine zK (rs := [.cell 4 74]) rfl (resC (zU 4 rfl rfl ty74 rfl) (resN)) (congrArg (m3) (?_ : ⟨⟨⟨_, _⟩, ⟨_, _⟩, ⟨_, _⟩⟩, ⟨⟨_, _⟩, ⟨_, _⟩, ⟨_, _⟩⟩, ⟨⟨_, _⟩, ⟨_, _⟩, ⟨_, _⟩⟩⟩ = M3.turn axis (⟨a0, a1⟩ : Iv)))
     subst_vars; simp_all [M3.turn, zZX, qHH, M3.zero, iv0, iv1]
theorem rTurn (axis : Int) (a0 a1 : Int) (w : World) : Calls Tryz.prog 152 [.int .i64 axis, .agg #[.int .i64 a0, .int .i64 a1]].toArray w (Rets (m3 (M3.turn axis (⟨a0, a1⟩ : Iv))) (w)) := by
 refine zX (n := 67) Tryz.func152 rfl rfl rfl ?_
 refine qK ?_
 refine qZ ?_
 refine kY 3 rfl rfl rfl rfl ?_; intro b3
 refine yQ 4 ze74 rfl rfl rfl ?_; intro b4
 refine qJ ?_
 refine qQ ?_
 refine qK ?_
 refine qK ?_
 refine qZ ?_
 refine qY (zJ 3 ty71 rfl rfl rfl) rfl rfl rfl ?_
 refine jW (F := vB) (zQ en147 rfl (fun w _ => zQH _ _  w)) rfl rfl rfl ?_; intro r10 hr10
 refine qY (qUX rfl) rfl rfl rfl ?_
 refine qJ ?_
 refine qQ ?_
 refine yH rfl (fun hc11 => ?_) (fun hc11 => ?_)
 ·
  refine qK ?_
  refine qZ ?_
  refine qY (zH la74 rfl rfl) rfl rfl rfl ?_
  refine qG 4 ty74 rfl rfl rfl rfl rfl rfl rfl rfl ?_
  refine qJ ?_
  refine qQ ?_
  refine zV ?_
  refine jK ?_
  refine zK (rs := [.cell 4 74]) rfl (resC (zU 4 rfl rfl ty74 rfl) (resN)) (congrArg (m3) (?_ : ⟨⟨⟨_, _⟩, ⟨_, _⟩, ⟨_, _⟩⟩, ⟨⟨_, _⟩, ⟨_, _⟩, ⟨_, _⟩⟩, ⟨⟨_, _⟩, ⟨_, _⟩, ⟨_, _⟩⟩⟩ = M3.turn axis (⟨a0, a1⟩ : Iv)))
  subst_vars; simp_all [M3.turn, zZX, qHH, M3.zero, iv0, iv1]
 ·
  refine yZ ?_
  refine qQ ?_
  refine qK ?_
  refine yY 8 mo (by kernel_rfl) ?_
  simp only [List.take_succ_cons, List.take_zero, List.drop_succ_cons, List.drop_zero]
  refine yV (F := iv) (zQ en31 rfl (fun w _ => rOf _  w)) rfl rfl rfl ?_; intro r13 hr13
  refine qH (zJ 3 ty71 rfl rfl rfl) rfl rfl rfl ?_
  refine yV (F := iv) (zQ en163 rfl (fun w _ => rCosOver _ _  w)) rfl rfl rfl ?_; intro r15 hr15
  refine qH (zJ 3 ty71 rfl rfl rfl) rfl rfl rfl ?_
  refine yV (F := iv) (zQ en164 rfl (fun w _ => rSinOver _ _  w)) rfl rfl rfl ?_; intro r17 hr17
  refine doG_alloc ze71 rfl rfl rfl rfl ?_
  refine doG_alloc ze71 rfl rfl rfl rfl ?_
  refine doG_alloc ze71 rfl rfl rfl rfl ?_
  refine jX ?_
  refine qVK 7 rfl ?_; intro b7_2
  refine qVK 6 rfl ?_; intro b6_2
  refine qVK 5 rfl ?_; intro b5_2
  refine yU ?_
  refine qG 5 ty71 rfl rfl rfl rfl rfl rfl rfl rfl ?_
  refine qG 6 ty71 rfl rfl rfl rfl rfl rfl rfl rfl ?_
  refine qG 7 ty71 rfl rfl rfl rfl rfl rfl rfl rfl ?_
  refine qJ ?_
  refine qQ ?_
  refine qK ?_
  refine qZ ?_
  refine qY (zJ 7 ty71 rfl rfl rfl) rfl rfl rfl ?_
  refine jW (F := iv) (zQ en165 rfl (fun w _ => rNeg _ _  w)) rfl rfl rfl ?_; intro r19 hr19
  refine yQ 8 ze71 rfl rfl rfl ?_; intro b8
  refine qG 8 ty71 rfl rfl rfl rfl rfl rfl rfl rfl ?_
  refine qJ ?_
  refine qQ ?_
  refine qK ?_
  refine qK ?_
  refine qZ ?_
  refine qY (qU rfl) rfl rfl rfl ?_
  refine qJ ?_
  refine qQ ?_
  refine yJ ?_
  refine qK ?_
  refine qZ ?_
  refine qY (uX rfl rfl) rfl rfl rfl ?_
  refine qY (qX rfl) rfl rfl rfl ?_
  refine qJ ?_
  refine qQ ?_
  refine yH rfl (fun hc21 => ?_) (fun hc21 => ?_)
  ·
   refine qK ?_
   refine qZ ?_
   refine qY (zJ 5 ty71 rfl rfl rfl) rfl rfl rfl ?_
   refine qY (zH la71 rfl rfl) rfl rfl rfl ?_
   refine qY (zH la71 rfl rfl) rfl rfl rfl ?_
   refine qY (zH la72 rfl rfl) rfl rfl rfl ?_
   refine qY (zH la71 rfl rfl) rfl rfl rfl ?_
   refine qY (zJ 6 ty71 rfl rfl rfl) rfl rfl rfl ?_
   refine qY (zJ 8 ty71 rfl rfl rfl) rfl rfl rfl ?_
   refine qY (zH la72 rfl rfl) rfl rfl rfl ?_
   refine qY (zH la71 rfl rfl) rfl rfl rfl ?_
   refine qY (zJ 7 ty71 rfl rfl rfl) rfl rfl rfl ?_
   refine qY (zJ 6 ty71 rfl rfl rfl) rfl rfl rfl ?_
   refine qY (zH la72 rfl rfl) rfl rfl rfl ?_
   refine qY (zH la74 rfl rfl) rfl rfl rfl ?_
   refine qG 4 ty74 rfl rfl rfl rfl rfl rfl rfl rfl ?_
   refine qJ ?_
   refine qQ ?_
   refine zV ?_
   refine kU ?_
   refine jK ?_
   refine zK (rs := [.cell 4 74]) rfl (resC (zU 4 rfl rfl ty74 rfl) (resN)) (congrArg (m3) (?_ : ⟨⟨⟨_, _⟩, ⟨_, _⟩, ⟨_, _⟩⟩, ⟨⟨_, _⟩, ⟨_, _⟩, ⟨_, _⟩⟩, ⟨⟨_, _⟩, ⟨_, _⟩, ⟨_, _⟩⟩⟩ = M3.turn axis (⟨a0, a1⟩ : Iv)))
   subst_vars; simp_all [M3.turn, zZX, qHH, M3.zero, iv0, iv1]
  ·
   refine qK ?_
   refine qZ ?_
   refine qY (uX rfl rfl) rfl rfl rfl ?_
   refine qY (qX rfl) rfl rfl rfl ?_
   refine qJ ?_
   refine qQ ?_
   refine yH rfl (fun hc36 => ?_) (fun hc36 => ?_)
   ·
    refine qK ?_
    refine qZ ?_
    refine qY (zJ 6 ty71 rfl rfl rfl) rfl rfl rfl ?_
    refine qY (zH la71 rfl rfl) rfl rfl rfl ?_
    refine qY (zJ 7 ty71 rfl rfl rfl) rfl rfl rfl ?_
    refine qY (zH la72 rfl rfl) rfl rfl rfl ?_
    refine qY (zH la71 rfl rfl) rfl rfl rfl ?_
    refine qY (zJ 5 ty71 rfl rfl rfl) rfl rfl rfl ?_
    refine qY (zH la71 rfl rfl) rfl rfl rfl ?_
    refine qY (zH la72 rfl rfl) rfl rfl rfl ?_
    refine qY (zJ 8 ty71 rfl rfl rfl) rfl rfl rfl ?_
    refine qY (zH la71 rfl rfl) rfl rfl rfl ?_
    refine qY (zJ 6 ty71 rfl rfl rfl) rfl rfl rfl ?_
    refine qY (zH la72 rfl rfl) rfl rfl rfl ?_
    refine qY (zH la74 rfl rfl) rfl rfl rfl ?_
    refine qG 4 ty74 rfl rfl rfl rfl rfl rfl rfl rfl ?_
    refine qJ ?_
    refine qQ ?_
    refine zV ?_
    refine kU ?_
    refine jK ?_
    refine zK (rs := [.cell 4 74]) rfl (resC (zU 4 rfl rfl ty74 rfl) (resN)) (congrArg (m3) (?_ : ⟨⟨⟨_, _⟩, ⟨_, _⟩, ⟨_, _⟩⟩, ⟨⟨_, _⟩, ⟨_, _⟩, ⟨_, _⟩⟩, ⟨⟨_, _⟩, ⟨_, _⟩, ⟨_, _⟩⟩⟩ = M3.turn axis (⟨a0, a1⟩ : Iv)))
    subst_vars; simp_all [M3.turn, zZX, qHH, M3.zero, iv0, iv1]
   ·
    refine qK ?_
    refine qZ ?_
    refine qY (uX rfl rfl) rfl rfl rfl ?_
    refine qY (qX rfl) rfl rfl rfl ?_
    refine qJ ?_
    refine qQ ?_
    refine yH rfl (fun hc51 => ?_) (fun hc51 => ?_)
    ·
     refine qK ?_
     refine qZ ?_
     refine qY (zJ 6 ty71 rfl rfl rfl) rfl rfl rfl ?_
     refine qY (zJ 8 ty71 rfl rfl rfl) rfl rfl rfl ?_
     refine qY (zH la71 rfl rfl) rfl rfl rfl ?_
     refine qY (zH la72 rfl rfl) rfl rfl rfl ?_
     refine qY (zJ 7 ty71 rfl rfl rfl) rfl rfl rfl ?_
     refine qY (zJ 6 ty71 rfl rfl rfl) rfl rfl rfl ?_
     refine qY (zH la71 rfl rfl) rfl rfl rfl ?_
     refine qY (zH la72 rfl rfl) rfl rfl rfl ?_
     refine qY (zH la71 rfl rfl) rfl rfl rfl ?_
     refine qY (zH la71 rfl rfl) rfl rfl rfl ?_
     refine qY (zJ 5 ty71 rfl rfl rfl) rfl rfl rfl ?_
     refine qY (zH la72 rfl rfl) rfl rfl rfl ?_
     refine qY (zH la74 rfl rfl) rfl rfl rfl ?_
     refine qG 4 ty74 rfl rfl rfl rfl rfl rfl rfl rfl ?_
     refine qJ ?_
     refine qQ ?_
     refine zV ?_
     refine kU ?_
     refine jK ?_
     refine zK (rs := [.cell 4 74]) rfl (resC (zU 4 rfl rfl ty74 rfl) (resN)) (congrArg (m3) (?_ : ⟨⟨⟨_, _⟩, ⟨_, _⟩, ⟨_, _⟩⟩, ⟨⟨_, _⟩, ⟨_, _⟩, ⟨_, _⟩⟩, ⟨⟨_, _⟩, ⟨_, _⟩, ⟨_, _⟩⟩⟩ = M3.turn axis (⟨a0, a1⟩ : Iv)))
     subst_vars; simp_all [M3.turn, zZX, qHH, M3.zero, iv0, iv1]
    ·
     refine yZ ?_
     refine zZ ?_
     refine qQ ?_
     refine qK ?_
     refine qZ ?_
     refine qY (zH la74 rfl rfl) rfl rfl rfl ?_
     refine qG 4 ty74 rfl rfl rfl rfl rfl rfl rfl rfl ?_
     refine qJ ?_
     refine qQ ?_
     refine zV ?_
     refine zK (rs := [.cell 4 74]) rfl (resC (zU 4 rfl rfl ty74 rfl) (resN)) (congrArg (m3) (?_ : ⟨⟨⟨_, _⟩, ⟨_, _⟩, ⟨_, _⟩⟩, ⟨⟨_, _⟩, ⟨_, _⟩, ⟨_, _⟩⟩, ⟨⟨_, _⟩, ⟨_, _⟩, ⟨_, _⟩⟩⟩ = M3.turn axis (⟨a0, a1⟩ : Iv)))
     subst_vars; simp_all [M3.turn, zZX, qHH, M3.zero, iv0, iv1]
end Go.Proofs.YtmbnpjpggccefaaGreat
namespace Go.Proofs.YtmbnpjpggccefaaGreat
open Go.Rx Rt Go.Sx Go.RowKit
namespace VM2
noncomputable def o_iAdd : List PV → Option (Bool × Ret) := fun ps => match ps with
 | [.a a', .a b'] => (ivD a').bind fun a => (ivD b').bind fun b => some (true, .v (.a (ivC (Iv.add a b))))
 | _ => none
theorem ok_iAdd : OneOk Tryz.prog 142 o_iAdd := by
 intro ps r h
 unfold o_iAdd at h
 split at h
 ·simp only [Option.bind_eq_some_iff, Option.some.injEq, Prod.mk.injEq] at h
  obtain ⟨a, ha, b, hb, hg, rfl⟩ := h
  rw [qGU ha]
  rw [qGU hb]
  exact qQY (zG Tryz.func142 (by kernel_rfl) (by kernel_rfl)) rfl rfl (fun w => iAdd _ _ _ _ w)
 ·cases h
noncomputable def L1 : OrL := (142, o_iAdd) :: ([] : OrL)
theorem L1_ok : AllP (fun x : Nat × (List PV → Option (Bool × Ret)) => OneOk Tryz.prog x.1 x.2) L1 := ⟨ok_iAdd, trivial⟩
noncomputable def o_iMul : List PV → Option (Bool × Ret) := fun ps => match ps with
 | [.a a', .a b'] => (ivD a').bind fun a => (ivD b').bind fun b => some (true, .v (.a (ivC (Iv.mul a b))))
 | _ => none
theorem ok_iMul : OneOk Tryz.prog 143 o_iMul := by
 intro ps r h
 unfold o_iMul at h
 split at h
 ·simp only [Option.bind_eq_some_iff, Option.some.injEq, Prod.mk.injEq] at h
  obtain ⟨a, ha, b, hb, hg, rfl⟩ := h
  rw [qGU ha]
  rw [qGU hb]
  exact qQY (zG Tryz.func143 (by kernel_rfl) (by kernel_rfl)) rfl rfl (fun w => iMul _ _ _ _ w)
 ·cases h
noncomputable def L2 : OrL := (143, o_iMul) :: L1
theorem L2_ok : AllP (fun x : Nat × (List PV → Option (Bool × Ret)) => OneOk Tryz.prog x.1 x.2) L2 := ⟨ok_iMul, L1_ok⟩
noncomputable def o_rMul : List PV → Option (Bool × Ret) := fun ps => match ps with
 | [.a a', .a b'] => (ivD a').bind fun a => (ivD b').bind fun b => some (true, .v (.a (ivC (Iv.mul a b))))
 | _ => none
theorem ok_rMul : OneOk Tryz.prog 104 o_rMul := by
 intro ps r h
 unfold o_rMul at h
 split at h
 ·simp only [Option.bind_eq_some_iff, Option.some.injEq, Prod.mk.injEq] at h
  obtain ⟨a, ha, b, hb, hg, rfl⟩ := h
  rw [qGU ha]
  rw [qGU hb]
  exact qQY (zG Tryz.func104 (by kernel_rfl) (by kernel_rfl)) rfl rfl (fun w => rMul _ _ _ _ w)
 ·cases h
noncomputable def L3 : OrL := (104, o_rMul) :: L2
theorem L3_ok : AllP (fun x : Nat × (List PV → Option (Bool × Ret)) => OneOk Tryz.prog x.1 x.2) L3 := ⟨ok_rMul, L2_ok⟩
noncomputable def o_rAdd : List PV → Option (Bool × Ret) := fun ps => match ps with
 | [.a a', .a b'] => (ivD a').bind fun a => (ivD b').bind fun b => some (true, .v (.a (ivC (Iv.add a b))))
 | _ => none
theorem ok_rAdd : OneOk Tryz.prog 103 o_rAdd := by
 intro ps r h
 unfold o_rAdd at h
 split at h
 ·simp only [Option.bind_eq_some_iff, Option.some.injEq, Prod.mk.injEq] at h
  obtain ⟨a, ha, b, hb, hg, rfl⟩ := h
  rw [qGU ha]
  rw [qGU hb]
  exact qQY (zG Tryz.func103 (by kernel_rfl) (by kernel_rfl)) rfl rfl (fun w => rAdd _ _ _ _ w)
 ·cases h
noncomputable def L4 : OrL := (103, o_rAdd) :: L3
theorem L4_ok : AllP (fun x : Nat × (List PV → Option (Bool × Ret)) => OneOk Tryz.prog x.1 x.2) L4 := ⟨ok_rAdd, L3_ok⟩
end VM2
open VM2
set_option maxRecDepth 100000 in
theorem mCompose (p0 p1 p2 p3 p4 p5 p6 p7 p8 p9 p10 p11 p12 p13 p14 p15 p16 p17 : Int) (q0 q1 q2 q3 q4 q5 q6 q7 q8 q9 q10 q11 q12 q13 q14 q15 q16 q17 : Int) (w : World) : Calls Tryz.prog 97 [.agg #[.int .i64 p0, .int .i64 p1, .int .i64 p2, .int .i64 p3, .int .i64 p4, .int .i64 p5, .int .i64 p6, .int .i64 p7, .int .i64 p8, .int .i64 p9, .int .i64 p10, .int .i64 p11, .int .i64 p12, .int .i64 p13, .int .i64 p14, .int .i64 p15, .int .i64 p16, .int .i64 p17], .agg #[.int .i64 q0, .int .i64 q1, .int .i64 q2, .int .i64 q3, .int .i64 q4, .int .i64 q5, .int .i64 q6, .int .i64 q7, .int .i64 q8, .int .i64 q9, .int .i64 q10, .int .i64 q11, .int .i64 q12, .int .i64 q13, .int .i64 q14, .int .i64 q15, .int .i64 q16, .int .i64 q17]].toArray w (Rets (m3 (M3.mul ((M3.mk (V3.mk (Iv.mk p0 p1) (Iv.mk p2 p3) (Iv.mk p4 p5)) (V3.mk (Iv.mk p6 p7) (Iv.mk p8 p9) (Iv.mk p10 p11)) (V3.mk (Iv.mk p12 p13) (Iv.mk p14 p15) (Iv.mk p16 p17))) : M3) ((M3.mk (V3.mk (Iv.mk q0 q1) (Iv.mk q2 q3) (Iv.mk q4 q5)) (V3.mk (Iv.mk q6 q7) (Iv.mk q8 q9) (Iv.mk q10 q11)) (V3.mk (Iv.mk q12 q13) (Iv.mk q14 q15) (Iv.mk q16 q17))) : M3))) w) :=
 rets_of_snd (x := .a (m3C (M3.mul ((M3.mk (V3.mk (Iv.mk p0 p1) (Iv.mk p2 p3) (Iv.mk p4 p5)) (V3.mk (Iv.mk p6 p7) (Iv.mk p8 p9) (Iv.mk p10 p11)) (V3.mk (Iv.mk p12 p13) (Iv.mk p14 p15) (Iv.mk p16 p17))) : M3) ((M3.mk (V3.mk (Iv.mk q0 q1) (Iv.mk q2 q3) (Iv.mk q4 q5)) (V3.mk (Iv.mk q6 q7) (Iv.mk q8 q9) (Iv.mk q10 q11)) (V3.mk (Iv.mk q12 q13) (Iv.mk q14 q15) (Iv.mk q16 q17))) : M3)))) (uW (N := 60) (ps := [.a [.n .i64 p0, .n .i64 p1, .n .i64 p2, .n .i64 p3, .n .i64 p4, .n .i64 p5, .n .i64 p6, .n .i64 p7, .n .i64 p8, .n .i64 p9, .n .i64 p10, .n .i64 p11, .n .i64 p12, .n .i64 p13, .n .i64 p14, .n .i64 p15, .n .i64 p16, .n .i64 p17], .a [.n .i64 q0, .n .i64 q1, .n .i64 q2, .n .i64 q3, .n .i64 q4, .n .i64 q5, .n .i64 q6, .n .i64 q7, .n .i64 q8, .n .i64 q9, .n .i64 q10, .n .i64 q11, .n .i64 q12, .n .i64 q13, .n .i64 q14, .n .i64 q15, .n .i64 q16, .n .i64 q17]]) tabOk mixed (OrL.ok (l := L4) L4_ok) ((by kernel_rfl : _ = some (.v (.a [.n .i64 (min (max (Iv.add (Iv.add (Iv.add (Iv.mk 0 0) (Iv.mul (Iv.mk p0 p1) (Iv.mk q0 q1))) (Iv.mul (Iv.mk p2 p3) (Iv.mk q6 q7))) (Iv.mul (Iv.mk p4 p5) (Iv.mk q12 q13))).lo (-65536)) 65536), .n .i64 (min (max (Iv.add (Iv.add (Iv.add (Iv.mk 0 0) (Iv.mul (Iv.mk p0 p1) (Iv.mk q0 q1))) (Iv.mul (Iv.mk p2 p3) (Iv.mk q6 q7))) (Iv.mul (Iv.mk p4 p5) (Iv.mk q12 q13))).hi (-65536)) 65536), .n .i64 (min (max (Iv.add (Iv.add (Iv.add (Iv.mk 0 0) (Iv.mul (Iv.mk p0 p1) (Iv.mk q2 q3))) (Iv.mul (Iv.mk p2 p3) (Iv.mk q8 q9))) (Iv.mul (Iv.mk p4 p5) (Iv.mk q14 q15))).lo (-65536)) 65536), .n .i64 (min (max (Iv.add (Iv.add (Iv.add (Iv.mk 0 0) (Iv.mul (Iv.mk p0 p1) (Iv.mk q2 q3))) (Iv.mul (Iv.mk p2 p3) (Iv.mk q8 q9))) (Iv.mul (Iv.mk p4 p5) (Iv.mk q14 q15))).hi (-65536)) 65536), .n .i64 (min (max (Iv.add (Iv.add (Iv.add (Iv.mk 0 0) (Iv.mul (Iv.mk p0 p1) (Iv.mk q4 q5))) (Iv.mul (Iv.mk p2 p3) (Iv.mk q10 q11))) (Iv.mul (Iv.mk p4 p5) (Iv.mk q16 q17))).lo (-65536)) 65536), .n .i64 (min (max (Iv.add (Iv.add (Iv.add (Iv.mk 0 0) (Iv.mul (Iv.mk p0 p1) (Iv.mk q4 q5))) (Iv.mul (Iv.mk p2 p3) (Iv.mk q10 q11))) (Iv.mul (Iv.mk p4 p5) (Iv.mk q16 q17))).hi (-65536)) 65536), .n .i64 (min (max (Iv.add (Iv.add (Iv.add (Iv.mk 0 0) (Iv.mul (Iv.mk p6 p7) (Iv.mk q0 q1))) (Iv.mul (Iv.mk p8 p9) (Iv.mk q6 q7))) (Iv.mul (Iv.mk p10 p11) (Iv.mk q12 q13))).lo (-65536)) 65536), .n .i64 (min (max (Iv.add (Iv.add (Iv.add (Iv.mk 0 0) (Iv.mul (Iv.mk p6 p7) (Iv.mk q0 q1))) (Iv.mul (Iv.mk p8 p9) (Iv.mk q6 q7))) (Iv.mul (Iv.mk p10 p11) (Iv.mk q12 q13))).hi (-65536)) 65536), .n .i64 (min (max (Iv.add (Iv.add (Iv.add (Iv.mk 0 0) (Iv.mul (Iv.mk p6 p7) (Iv.mk q2 q3))) (Iv.mul (Iv.mk p8 p9) (Iv.mk q8 q9))) (Iv.mul (Iv.mk p10 p11) (Iv.mk q14 q15))).lo (-65536)) 65536), .n .i64 (min (max (Iv.add (Iv.add (Iv.add (Iv.mk 0 0) (Iv.mul (Iv.mk p6 p7) (Iv.mk q2 q3))) (Iv.mul (Iv.mk p8 p9) (Iv.mk q8 q9))) (Iv.mul (Iv.mk p10 p11) (Iv.mk q14 q15))).hi (-65536)) 65536), .n .i64 (min (max (Iv.add (Iv.add (Iv.add (Iv.mk 0 0) (Iv.mul (Iv.mk p6 p7) (Iv.mk q4 q5))) (Iv.mul (Iv.mk p8 p9) (Iv.mk q10 q11))) (Iv.mul (Iv.mk p10 p11) (Iv.mk q16 q17))).lo (-65536)) 65536), .n .i64 (min (max (Iv.add (Iv.add (Iv.add (Iv.mk 0 0) (Iv.mul (Iv.mk p6 p7) (Iv.mk q4 q5))) (Iv.mul (Iv.mk p8 p9) (Iv.mk q10 q11))) (Iv.mul (Iv.mk p10 p11) (Iv.mk q16 q17))).hi (-65536)) 65536), .n .i64 (min (max (Iv.add (Iv.add (Iv.add (Iv.mk 0 0) (Iv.mul (Iv.mk p12 p13) (Iv.mk q0 q1))) (Iv.mul (Iv.mk p14 p15) (Iv.mk q6 q7))) (Iv.mul (Iv.mk p16 p17) (Iv.mk q12 q13))).lo (-65536)) 65536), .n .i64 (min (max (Iv.add (Iv.add (Iv.add (Iv.mk 0 0) (Iv.mul (Iv.mk p12 p13) (Iv.mk q0 q1))) (Iv.mul (Iv.mk p14 p15) (Iv.mk q6 q7))) (Iv.mul (Iv.mk p16 p17) (Iv.mk q12 q13))).hi (-65536)) 65536), .n .i64 (min (max (Iv.add (Iv.add (Iv.add (Iv.mk 0 0) (Iv.mul (Iv.mk p12 p13) (Iv.mk q2 q3))) (Iv.mul (Iv.mk p14 p15) (Iv.mk q8 q9))) (Iv.mul (Iv.mk p16 p17) (Iv.mk q14 q15))).lo (-65536)) 65536), .n .i64 (min (max (Iv.add (Iv.add (Iv.add (Iv.mk 0 0) (Iv.mul (Iv.mk p12 p13) (Iv.mk q2 q3))) (Iv.mul (Iv.mk p14 p15) (Iv.mk q8 q9))) (Iv.mul (Iv.mk p16 p17) (Iv.mk q14 q15))).hi (-65536)) 65536), .n .i64 (min (max (Iv.add (Iv.add (Iv.add (Iv.mk 0 0) (Iv.mul (Iv.mk p12 p13) (Iv.mk q4 q5))) (Iv.mul (Iv.mk p14 p15) (Iv.mk q10 q11))) (Iv.mul (Iv.mk p16 p17) (Iv.mk q16 q17))).lo (-65536)) 65536), .n .i64 (min (max (Iv.add (Iv.add (Iv.add (Iv.mk 0 0) (Iv.mul (Iv.mk p12 p13) (Iv.mk q4 q5))) (Iv.mul (Iv.mk p14 p15) (Iv.mk q10 q11))) (Iv.mul (Iv.mk p16 p17) (Iv.mk q16 q17))).hi (-65536)) 65536)]), [])).trans (by simp only [add_zero_mul]; rfl))) rfl rfl w
set_option maxRecDepth 100000 in
theorem rCompose (p0 p1 p2 p3 p4 p5 p6 p7 p8 p9 p10 p11 p12 p13 p14 p15 p16 p17 : Int) (q0 q1 q2 q3 q4 q5 q6 q7 q8 q9 q10 q11 q12 q13 q14 q15 q16 q17 : Int) (w : World) : Calls Tryz.prog 111 [.agg #[.int .i64 p0, .int .i64 p1, .int .i64 p2, .int .i64 p3, .int .i64 p4, .int .i64 p5, .int .i64 p6, .int .i64 p7, .int .i64 p8, .int .i64 p9, .int .i64 p10, .int .i64 p11, .int .i64 p12, .int .i64 p13, .int .i64 p14, .int .i64 p15, .int .i64 p16, .int .i64 p17], .agg #[.int .i64 q0, .int .i64 q1, .int .i64 q2, .int .i64 q3, .int .i64 q4, .int .i64 q5, .int .i64 q6, .int .i64 q7, .int .i64 q8, .int .i64 q9, .int .i64 q10, .int .i64 q11, .int .i64 q12, .int .i64 q13, .int .i64 q14, .int .i64 q15, .int .i64 q16, .int .i64 q17]].toArray w (Rets (m3 (M3.mul ((M3.mk (V3.mk (Iv.mk p0 p1) (Iv.mk p2 p3) (Iv.mk p4 p5)) (V3.mk (Iv.mk p6 p7) (Iv.mk p8 p9) (Iv.mk p10 p11)) (V3.mk (Iv.mk p12 p13) (Iv.mk p14 p15) (Iv.mk p16 p17))) : M3) ((M3.mk (V3.mk (Iv.mk q0 q1) (Iv.mk q2 q3) (Iv.mk q4 q5)) (V3.mk (Iv.mk q6 q7) (Iv.mk q8 q9) (Iv.mk q10 q11)) (V3.mk (Iv.mk q12 q13) (Iv.mk q14 q15) (Iv.mk q16 q17))) : M3))) w) :=
 rets_of_snd (x := .a (m3C (M3.mul ((M3.mk (V3.mk (Iv.mk p0 p1) (Iv.mk p2 p3) (Iv.mk p4 p5)) (V3.mk (Iv.mk p6 p7) (Iv.mk p8 p9) (Iv.mk p10 p11)) (V3.mk (Iv.mk p12 p13) (Iv.mk p14 p15) (Iv.mk p16 p17))) : M3) ((M3.mk (V3.mk (Iv.mk q0 q1) (Iv.mk q2 q3) (Iv.mk q4 q5)) (V3.mk (Iv.mk q6 q7) (Iv.mk q8 q9) (Iv.mk q10 q11)) (V3.mk (Iv.mk q12 q13) (Iv.mk q14 q15) (Iv.mk q16 q17))) : M3)))) (uW (N := 60) (ps := [.a [.n .i64 p0, .n .i64 p1, .n .i64 p2, .n .i64 p3, .n .i64 p4, .n .i64 p5, .n .i64 p6, .n .i64 p7, .n .i64 p8, .n .i64 p9, .n .i64 p10, .n .i64 p11, .n .i64 p12, .n .i64 p13, .n .i64 p14, .n .i64 p15, .n .i64 p16, .n .i64 p17], .a [.n .i64 q0, .n .i64 q1, .n .i64 q2, .n .i64 q3, .n .i64 q4, .n .i64 q5, .n .i64 q6, .n .i64 q7, .n .i64 q8, .n .i64 q9, .n .i64 q10, .n .i64 q11, .n .i64 q12, .n .i64 q13, .n .i64 q14, .n .i64 q15, .n .i64 q16, .n .i64 q17]]) tabOk mixed (OrL.ok (l := L4) L4_ok) ((by kernel_rfl : _ = some (.v (.a [.n .i64 (max (-65536) (min (Iv.add (Iv.add (Iv.mul (Iv.mk p0 p1) (Iv.mk q0 q1)) (Iv.mul (Iv.mk p2 p3) (Iv.mk q6 q7))) (Iv.mul (Iv.mk p4 p5) (Iv.mk q12 q13))).lo 65536)), .n .i64 (max (-65536) (min (Iv.add (Iv.add (Iv.mul (Iv.mk p0 p1) (Iv.mk q0 q1)) (Iv.mul (Iv.mk p2 p3) (Iv.mk q6 q7))) (Iv.mul (Iv.mk p4 p5) (Iv.mk q12 q13))).hi 65536)), .n .i64 (max (-65536) (min (Iv.add (Iv.add (Iv.mul (Iv.mk p0 p1) (Iv.mk q2 q3)) (Iv.mul (Iv.mk p2 p3) (Iv.mk q8 q9))) (Iv.mul (Iv.mk p4 p5) (Iv.mk q14 q15))).lo 65536)), .n .i64 (max (-65536) (min (Iv.add (Iv.add (Iv.mul (Iv.mk p0 p1) (Iv.mk q2 q3)) (Iv.mul (Iv.mk p2 p3) (Iv.mk q8 q9))) (Iv.mul (Iv.mk p4 p5) (Iv.mk q14 q15))).hi 65536)), .n .i64 (max (-65536) (min (Iv.add (Iv.add (Iv.mul (Iv.mk p0 p1) (Iv.mk q4 q5)) (Iv.mul (Iv.mk p2 p3) (Iv.mk q10 q11))) (Iv.mul (Iv.mk p4 p5) (Iv.mk q16 q17))).lo 65536)), .n .i64 (max (-65536) (min (Iv.add (Iv.add (Iv.mul (Iv.mk p0 p1) (Iv.mk q4 q5)) (Iv.mul (Iv.mk p2 p3) (Iv.mk q10 q11))) (Iv.mul (Iv.mk p4 p5) (Iv.mk q16 q17))).hi 65536)), .n .i64 (max (-65536) (min (Iv.add (Iv.add (Iv.mul (Iv.mk p6 p7) (Iv.mk q0 q1)) (Iv.mul (Iv.mk p8 p9) (Iv.mk q6 q7))) (Iv.mul (Iv.mk p10 p11) (Iv.mk q12 q13))).lo 65536)), .n .i64 (max (-65536) (min (Iv.add (Iv.add (Iv.mul (Iv.mk p6 p7) (Iv.mk q0 q1)) (Iv.mul (Iv.mk p8 p9) (Iv.mk q6 q7))) (Iv.mul (Iv.mk p10 p11) (Iv.mk q12 q13))).hi 65536)), .n .i64 (max (-65536) (min (Iv.add (Iv.add (Iv.mul (Iv.mk p6 p7) (Iv.mk q2 q3)) (Iv.mul (Iv.mk p8 p9) (Iv.mk q8 q9))) (Iv.mul (Iv.mk p10 p11) (Iv.mk q14 q15))).lo 65536)), .n .i64 (max (-65536) (min (Iv.add (Iv.add (Iv.mul (Iv.mk p6 p7) (Iv.mk q2 q3)) (Iv.mul (Iv.mk p8 p9) (Iv.mk q8 q9))) (Iv.mul (Iv.mk p10 p11) (Iv.mk q14 q15))).hi 65536)), .n .i64 (max (-65536) (min (Iv.add (Iv.add (Iv.mul (Iv.mk p6 p7) (Iv.mk q4 q5)) (Iv.mul (Iv.mk p8 p9) (Iv.mk q10 q11))) (Iv.mul (Iv.mk p10 p11) (Iv.mk q16 q17))).lo 65536)), .n .i64 (max (-65536) (min (Iv.add (Iv.add (Iv.mul (Iv.mk p6 p7) (Iv.mk q4 q5)) (Iv.mul (Iv.mk p8 p9) (Iv.mk q10 q11))) (Iv.mul (Iv.mk p10 p11) (Iv.mk q16 q17))).hi 65536)), .n .i64 (max (-65536) (min (Iv.add (Iv.add (Iv.mul (Iv.mk p12 p13) (Iv.mk q0 q1)) (Iv.mul (Iv.mk p14 p15) (Iv.mk q6 q7))) (Iv.mul (Iv.mk p16 p17) (Iv.mk q12 q13))).lo 65536)), .n .i64 (max (-65536) (min (Iv.add (Iv.add (Iv.mul (Iv.mk p12 p13) (Iv.mk q0 q1)) (Iv.mul (Iv.mk p14 p15) (Iv.mk q6 q7))) (Iv.mul (Iv.mk p16 p17) (Iv.mk q12 q13))).hi 65536)), .n .i64 (max (-65536) (min (Iv.add (Iv.add (Iv.mul (Iv.mk p12 p13) (Iv.mk q2 q3)) (Iv.mul (Iv.mk p14 p15) (Iv.mk q8 q9))) (Iv.mul (Iv.mk p16 p17) (Iv.mk q14 q15))).lo 65536)), .n .i64 (max (-65536) (min (Iv.add (Iv.add (Iv.mul (Iv.mk p12 p13) (Iv.mk q2 q3)) (Iv.mul (Iv.mk p14 p15) (Iv.mk q8 q9))) (Iv.mul (Iv.mk p16 p17) (Iv.mk q14 q15))).hi 65536)), .n .i64 (max (-65536) (min (Iv.add (Iv.add (Iv.mul (Iv.mk p12 p13) (Iv.mk q4 q5)) (Iv.mul (Iv.mk p14 p15) (Iv.mk q10 q11))) (Iv.mul (Iv.mk p16 p17) (Iv.mk q16 q17))).lo 65536)), .n .i64 (max (-65536) (min (Iv.add (Iv.add (Iv.mul (Iv.mk p12 p13) (Iv.mk q4 q5)) (Iv.mul (Iv.mk p14 p15) (Iv.mk q10 q11))) (Iv.mul (Iv.mk p16 p17) (Iv.mk q16 q17))).hi 65536))]), [])).trans (by simp only [lim_ref]; rfl))) rfl rfl w
set_option maxRecDepth 100000 in
theorem mApply (p0 p1 p2 p3 p4 p5 p6 p7 p8 p9 p10 p11 p12 p13 p14 p15 p16 p17 : Int) (q0 q1 q2 q3 q4 q5 : Int) (w : World) : Calls Tryz.prog 141 [.agg #[.int .i64 p0, .int .i64 p1, .int .i64 p2, .int .i64 p3, .int .i64 p4, .int .i64 p5, .int .i64 p6, .int .i64 p7, .int .i64 p8, .int .i64 p9, .int .i64 p10, .int .i64 p11, .int .i64 p12, .int .i64 p13, .int .i64 p14, .int .i64 p15, .int .i64 p16, .int .i64 p17], .agg #[.int .i64 q0, .int .i64 q1, .int .i64 q2, .int .i64 q3, .int .i64 q4, .int .i64 q5]].toArray w (Rets (v3 (M3.apply ((M3.mk (V3.mk (Iv.mk p0 p1) (Iv.mk p2 p3) (Iv.mk p4 p5)) (V3.mk (Iv.mk p6 p7) (Iv.mk p8 p9) (Iv.mk p10 p11)) (V3.mk (Iv.mk p12 p13) (Iv.mk p14 p15) (Iv.mk p16 p17))) : M3) ((V3.mk (Iv.mk q0 q1) (Iv.mk q2 q3) (Iv.mk q4 q5)) : V3))) w) :=
 rets_of_snd (x := .a (v3C (M3.apply ((M3.mk (V3.mk (Iv.mk p0 p1) (Iv.mk p2 p3) (Iv.mk p4 p5)) (V3.mk (Iv.mk p6 p7) (Iv.mk p8 p9) (Iv.mk p10 p11)) (V3.mk (Iv.mk p12 p13) (Iv.mk p14 p15) (Iv.mk p16 p17))) : M3) ((V3.mk (Iv.mk q0 q1) (Iv.mk q2 q3) (Iv.mk q4 q5)) : V3)))) (uW (N := 60) (ps := [.a [.n .i64 p0, .n .i64 p1, .n .i64 p2, .n .i64 p3, .n .i64 p4, .n .i64 p5, .n .i64 p6, .n .i64 p7, .n .i64 p8, .n .i64 p9, .n .i64 p10, .n .i64 p11, .n .i64 p12, .n .i64 p13, .n .i64 p14, .n .i64 p15, .n .i64 p16, .n .i64 p17], .a [.n .i64 q0, .n .i64 q1, .n .i64 q2, .n .i64 q3, .n .i64 q4, .n .i64 q5]]) tabOk mixed (OrL.ok (l := L4) L4_ok) ((by kernel_rfl : _ = some (.v (.a [.n .i64 (Iv.add (Iv.add (Iv.add (Iv.mk 0 0) (Iv.mul (Iv.mk p0 p1) (Iv.mk q0 q1))) (Iv.mul (Iv.mk p2 p3) (Iv.mk q2 q3))) (Iv.mul (Iv.mk p4 p5) (Iv.mk q4 q5))).lo, .n .i64 (Iv.add (Iv.add (Iv.add (Iv.mk 0 0) (Iv.mul (Iv.mk p0 p1) (Iv.mk q0 q1))) (Iv.mul (Iv.mk p2 p3) (Iv.mk q2 q3))) (Iv.mul (Iv.mk p4 p5) (Iv.mk q4 q5))).hi, .n .i64 (Iv.add (Iv.add (Iv.add (Iv.mk 0 0) (Iv.mul (Iv.mk p6 p7) (Iv.mk q0 q1))) (Iv.mul (Iv.mk p8 p9) (Iv.mk q2 q3))) (Iv.mul (Iv.mk p10 p11) (Iv.mk q4 q5))).lo, .n .i64 (Iv.add (Iv.add (Iv.add (Iv.mk 0 0) (Iv.mul (Iv.mk p6 p7) (Iv.mk q0 q1))) (Iv.mul (Iv.mk p8 p9) (Iv.mk q2 q3))) (Iv.mul (Iv.mk p10 p11) (Iv.mk q4 q5))).hi, .n .i64 (Iv.add (Iv.add (Iv.add (Iv.mk 0 0) (Iv.mul (Iv.mk p12 p13) (Iv.mk q0 q1))) (Iv.mul (Iv.mk p14 p15) (Iv.mk q2 q3))) (Iv.mul (Iv.mk p16 p17) (Iv.mk q4 q5))).lo, .n .i64 (Iv.add (Iv.add (Iv.add (Iv.mk 0 0) (Iv.mul (Iv.mk p12 p13) (Iv.mk q0 q1))) (Iv.mul (Iv.mk p14 p15) (Iv.mk q2 q3))) (Iv.mul (Iv.mk p16 p17) (Iv.mk q4 q5))).hi]), [])).trans (by simp only [add_zero_mul]; rfl))) rfl rfl w
set_option maxRecDepth 100000 in
theorem rApply (p0 p1 p2 p3 p4 p5 p6 p7 p8 p9 p10 p11 p12 p13 p14 p15 p16 p17 : Int) (q0 q1 q2 q3 q4 q5 : Int) (w : World) : Calls Tryz.prog 63 [.agg #[.int .i64 p0, .int .i64 p1, .int .i64 p2, .int .i64 p3, .int .i64 p4, .int .i64 p5, .int .i64 p6, .int .i64 p7, .int .i64 p8, .int .i64 p9, .int .i64 p10, .int .i64 p11, .int .i64 p12, .int .i64 p13, .int .i64 p14, .int .i64 p15, .int .i64 p16, .int .i64 p17], .agg #[.int .i64 q0, .int .i64 q1, .int .i64 q2, .int .i64 q3, .int .i64 q4, .int .i64 q5]].toArray w (Rets (v3 (M3.apply ((M3.mk (V3.mk (Iv.mk p0 p1) (Iv.mk p2 p3) (Iv.mk p4 p5)) (V3.mk (Iv.mk p6 p7) (Iv.mk p8 p9) (Iv.mk p10 p11)) (V3.mk (Iv.mk p12 p13) (Iv.mk p14 p15) (Iv.mk p16 p17))) : M3) ((V3.mk (Iv.mk q0 q1) (Iv.mk q2 q3) (Iv.mk q4 q5)) : V3))) w) :=
 rets_of_snd (x := .a (v3C (M3.apply ((M3.mk (V3.mk (Iv.mk p0 p1) (Iv.mk p2 p3) (Iv.mk p4 p5)) (V3.mk (Iv.mk p6 p7) (Iv.mk p8 p9) (Iv.mk p10 p11)) (V3.mk (Iv.mk p12 p13) (Iv.mk p14 p15) (Iv.mk p16 p17))) : M3) ((V3.mk (Iv.mk q0 q1) (Iv.mk q2 q3) (Iv.mk q4 q5)) : V3)))) (uW (N := 60) (ps := [.a [.n .i64 p0, .n .i64 p1, .n .i64 p2, .n .i64 p3, .n .i64 p4, .n .i64 p5, .n .i64 p6, .n .i64 p7, .n .i64 p8, .n .i64 p9, .n .i64 p10, .n .i64 p11, .n .i64 p12, .n .i64 p13, .n .i64 p14, .n .i64 p15, .n .i64 p16, .n .i64 p17], .a [.n .i64 q0, .n .i64 q1, .n .i64 q2, .n .i64 q3, .n .i64 q4, .n .i64 q5]]) tabOk mixed (OrL.ok (l := L4) L4_ok) ((by kernel_rfl : _ = some (.v (.a [.n .i64 (Iv.add (Iv.add (Iv.mul (Iv.mk p0 p1) (Iv.mk q0 q1)) (Iv.mul (Iv.mk p2 p3) (Iv.mk q2 q3))) (Iv.mul (Iv.mk p4 p5) (Iv.mk q4 q5))).lo, .n .i64 (Iv.add (Iv.add (Iv.mul (Iv.mk p0 p1) (Iv.mk q0 q1)) (Iv.mul (Iv.mk p2 p3) (Iv.mk q2 q3))) (Iv.mul (Iv.mk p4 p5) (Iv.mk q4 q5))).hi, .n .i64 (Iv.add (Iv.add (Iv.mul (Iv.mk p6 p7) (Iv.mk q0 q1)) (Iv.mul (Iv.mk p8 p9) (Iv.mk q2 q3))) (Iv.mul (Iv.mk p10 p11) (Iv.mk q4 q5))).lo, .n .i64 (Iv.add (Iv.add (Iv.mul (Iv.mk p6 p7) (Iv.mk q0 q1)) (Iv.mul (Iv.mk p8 p9) (Iv.mk q2 q3))) (Iv.mul (Iv.mk p10 p11) (Iv.mk q4 q5))).hi, .n .i64 (Iv.add (Iv.add (Iv.mul (Iv.mk p12 p13) (Iv.mk q0 q1)) (Iv.mul (Iv.mk p14 p15) (Iv.mk q2 q3))) (Iv.mul (Iv.mk p16 p17) (Iv.mk q4 q5))).lo, .n .i64 (Iv.add (Iv.add (Iv.mul (Iv.mk p12 p13) (Iv.mk q0 q1)) (Iv.mul (Iv.mk p14 p15) (Iv.mk q2 q3))) (Iv.mul (Iv.mk p16 p17) (Iv.mk q4 q5))).hi]), [])).trans (by rfl))) rfl rfl w
end Go.Proofs.YtmbnpjpggccefaaGreat

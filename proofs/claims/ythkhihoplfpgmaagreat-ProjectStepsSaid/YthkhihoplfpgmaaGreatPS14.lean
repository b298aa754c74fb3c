/- Part 14 of the texts behind the last one: rules and contracts. No condition. -/
import Derived.Test.YthkhihoplfpgmaaGreatPS13
namespace Go.Proofs.YthkhihoplfpgmaaGreat
open Go.Sx
theorem kHZ : appB Tryz.prog 30 2 1 8 = true := by kernel_rfl
theorem mkCfg (lv : Value) (l : List Int) (aj am : Option Addr) (cj nm cm : Nat) (js : List J) (hn : js.length ≤ 1000) (hjs : ∀ j ∈ js, JB j) (w : World) (hl : IntsAt w w.heap.size lv l) (hS : qYX 12 aj (js.map jc) w) : Calls Tryz.prog 9 [.agg #[.slice aj js.length cj, .slice am nm cm], lv].toArray w (jUQ (X := Option Addr × Nat) (fun _ => True) (fun x => .slice x.1 js.length x.2) (fun x => OwnF 0 2 1 x.1 x.2 js.length (icC (cfgs l js js.length).1)) w) := by
 refine yH (n := 57) Tryz.func9 rfl rfl rfl ?_
 refine qW ?_
 refine qZ ?_
 refine zQH 2 rfl rfl rfl rfl ?_; intro b2
 refine qY (qV rfl) rfl rfl rfl ?_
 refine qX ?_
 refine qQ ?_
 refine qW ?_
 refine qZ ?_
 refine qY (qJ rfl) rfl rfl rfl ?_
 refine zGJ 11 en25 rfl (fun w' k => kGH w' (qVV hl k.grow (Nat.le_refl _))) rfl rfl ?_; intro b11
 refine qY (qV rfl) rfl rfl rfl ?_
 refine qX ?_
 refine qQ ?_
 refine qW ?_
 refine qZ ?_
 refine qY (qV rfl) rfl rfl rfl ?_
 refine qX ?_
 refine qQ ?_
 refine qW ?_
 refine qW ?_
 refine jKX 100 2 1 ?_
 refine qZ ?_
 refine qY (qV rfl) rfl rfl rfl ?_
 refine qX ?_
 refine qQ ?_
 refine uU ?_
 refine zJZ [2, 5] [2] (α := Nat × Nat × Option Addr × Nat × List Int) (fun x => js.length - x.1) (fun x => x.1 ≤ js.length ∧ cfgs l js x.1 = (x.2.2.2.2, x.2.1) ∧ x.2.2.2.2.length = x.1) (fun x => ⟨w, [(100, ownD x.2.2.1, OwnF 0 2 1 x.2.2.1 x.2.2.2.1 x.1 (icC x.2.2.2.2))]⟩) (fun x => [(6, .slice x.2.2.1 x.1 x.2.2.2.1), (7, .int .i64 (x.1 : Int))]) (fun x => [(11, b11, srcC lv l x.2.1, 86)]) (0, 0, none, 0, []) rfl rfl ?_ ?_ ?_ ?_ rfl ?_
 ·
  exact ⟨Nat.zero_le _, rfl, rfl⟩
 ·
  exact rfl
 ·
  repeat' first | exact trivial | exact True.intro | refine ⟨rfl, ?_⟩
 ·
  repeat' first | exact trivial | exact True.intro | refine ⟨rfl, ?_⟩
 rintro ⟨k, q, a, cap, cs⟩ ⟨hk, hsh, hlen⟩
 dsimp only at hk hsh hlen ⊢
 refine qW ?_
 refine qW ?_
 refine qZ ?_
 refine qY (qJ rfl) rfl rfl rfl ?_
 refine qY (qK zXW rfl) rfl rfl rfl ?_
 refine qY (yX 2 ty22 rfl rfl rfl) rfl rfl rfl ?_
 refine qY (qUZ sl22 rfl) rfl rfl rfl ?_
 refine qY (qWX rfl rfl) rfl rfl rfl ?_
 refine qX ?_
 refine qQ ?_
 refine jH rfl (fun hc16 => ?_) (fun hc16 => ?_)
 ·
  have h2 : k < js.length := by have := of_decide_eq_true hc16; omega
  obtain ⟨j, hjk⟩ : ∃ j, js[k]? = some j := ⟨_, List.getElem?_eq_getElem h2⟩
  have hj : (js.map jc)[k]? = some (jc j) := by rw [List.getElem?_map, hjk]; rfl
  obtain ⟨bj1, bj2, bj3⟩ := hjs j (List.mem_of_getElem? hjk)
  refine kY ?_
  refine qQ ?_
  refine qW ?_
  refine uU ?_
  refine qW ?_
  refine doC_all mo (by kernel_rfl) ?_
  refine yW (qK zXW rfl) rfl rfl rfl ?_
  refine yW (yX 2 ty22 rfl rfl rfl) rfl rfl rfl ?_
  refine yW (qJ rfl) rfl rfl rfl ?_
  refine yW (qZX (e := 62) (uQ hS) (by kernel_rfl) rfl rfl rfl hj h2) rfl rfl rfl ?_
  refine yW (zWJ (uQ hS) hj zJQ rfl) rfl rfl rfl ?_
  refine yW (zWY k 6 (uQ hS) hj ty2 rfl rfl) rfl rfl rfl ?_
  refine yW (qK zXW rfl) rfl rfl rfl ?_
  refine yW (yX 2 ty22 rfl rfl rfl) rfl rfl rfl ?_
  refine yW (qJ rfl) rfl rfl rfl ?_
  refine yW (qZX (e := 62) (uQ hS) (by kernel_rfl) rfl rfl rfl hj h2) rfl rfl rfl ?_
  refine yW (zWJ (uQ hS) hj zYH rfl) rfl rfl rfl ?_
  refine yW (zWY k 7 (uQ hS) hj ty2 rfl rfl) rfl rfl rfl ?_
  refine yW (qV rfl) rfl rfl rfl ?_
  refine yW (qV rfl) rfl rfl rfl ?_
  refine zZQ ?_
  refine qQ ?_
  refine qW ?_
  refine qZ ?_
  refine qY (qJ rfl) rfl rfl rfl ?_
  refine yQY (F := vI) 11 hl rfl en26 rfl (fun w' h => jK _ (by first | omega | assumption | (unfold In64; omega) | decide) w' h) rfl rfl rfl ?_; intro r32 hr32
  have br32 := uZ hr32 (by first | decide | omega)
  refine qX ?_
  refine qQ ?_
  refine uU ?_
  refine qW ?_
  refine qZ ?_
  refine qY (qKG rfl rfl) rfl rfl rfl ?_
  refine qY (qV rfl) rfl rfl rfl ?_
  refine qX ?_
  refine qQ ?_
  refine jH rfl (fun hc44 => ?_) (fun hc44 => ?_)
  ·
   refine qZ ?_
   refine qY (qJ rfl) rfl rfl rfl ?_
   refine qY (qJ rfl) rfl rfl rfl ?_
   refine qVG 48 sl30 ze2 rfl rfl rfl rfl rfl rfl rfl rfl ?_; intro b48
   refine qVH (id2 := 48) 100 kHZ rfl rfl rfl rfl rfl rfl rfl (by omega) (by omega) rfl rfl ?_; intro a49 c49 R49 hR49
   obtain rfl := Option.some.inj hR49
   refine qY (qV rfl) rfl rfl rfl ?_
   refine qX ?_
   refine zJ ?_
   refine zJ ?_
   refine qQ ?_
   refine qZ ?_
   refine qY (qJ rfl) rfl rfl rfl ?_
   refine qY (kG rfl rfl (zXK (by omega))) rfl rfl rfl ?_
   refine qY (qV rfl) rfl rfl rfl ?_
   refine qX ?_
   refine qJQ (k + 1, q + 1, a49, c49, cs ++ [j.lo]) (by refine ⟨?_, ?_, ?_⟩ <;> dsimp only; omega; exact cfg_0 hjk hsh hr32 (of_decide_eq_true hc44); simp [hlen]) (by show js.length - (k + 1) < js.length - k; omega) (by dsimp only; rw [jJU]; rfl) ?_ ?_ rfl
   repeat' first | exact trivial | exact True.intro | refine ⟨rfl, ?_⟩
  ·
   refine qW ?_
   refine qZ ?_
   refine qY (qKG rfl rfl) rfl rfl rfl ?_
   refine qY (qV rfl) rfl rfl rfl ?_
   refine qX ?_
   refine qQ ?_
   refine jH rfl (fun hc50 => ?_) (fun hc50 => ?_)
   ·
    refine qZ ?_
    refine qY (qJ rfl) rfl rfl rfl ?_
    refine qY (qJ rfl) rfl rfl rfl ?_
    refine qVG 54 sl30 ze2 rfl rfl rfl rfl rfl rfl rfl rfl ?_; intro b54
    refine qVH (id2 := 54) 100 kHZ rfl rfl rfl rfl rfl rfl rfl (by omega) (by omega) rfl rfl ?_; intro a55 c55 R55 hR55
    obtain rfl := Option.some.inj hR55
    refine qY (qV rfl) rfl rfl rfl ?_
    refine qX ?_
    refine zJ ?_
    refine zJ ?_
    refine qQ ?_
    refine qZ ?_
    refine qY (qJ rfl) rfl rfl rfl ?_
    refine qY (kG rfl rfl (zXK (by omega))) rfl rfl rfl ?_
    refine qY (qV rfl) rfl rfl rfl ?_
    refine qX ?_
    refine qJQ (k + 1, q + 1, a55, c55, cs ++ [j.hi]) (by refine ⟨?_, ?_, ?_⟩ <;> dsimp only; omega; exact cfg_1 hjk hsh hr32 (of_decide_eq_true hc50); simp [hlen]) (by show js.length - (k + 1) < js.length - k; omega) (by dsimp only; rw [jJU]; rfl) ?_ ?_ rfl
    repeat' first | exact trivial | exact True.intro | refine ⟨rfl, ?_⟩
   ·
    refine qZ ?_
    refine qY (qJ rfl) rfl rfl rfl ?_
    refine qY (qJ rfl) rfl rfl rfl ?_
    refine qY (qJ rfl) rfl rfl rfl ?_
    refine qY (qJ rfl) rfl rfl rfl ?_
    refine qY (qJ rfl) rfl rfl rfl ?_
    refine qY (qVK rfl rfl (by first | exact zY ⟨by omega, by omega⟩ | rfl)) rfl rfl rfl ?_
    refine qY (kG rfl rfl (by first | exact zY ⟨by omega, by omega⟩ | rfl)) rfl rfl rfl ?_
    refine yQY (F := vI) 11 hl rfl en26 rfl (fun w' h => jK _ (by first | omega | assumption | (unfold In64; omega) | decide) w' h) rfl rfl rfl ?_; intro r40 hr40
    have br40 := uZ hr40 (by first | decide | omega)
    refine qY (kG rfl rfl (by first | exact zY ⟨by omega, by omega⟩ | rfl)) rfl rfl rfl ?_
    refine qVG 42 sl30 ze2 rfl rfl rfl rfl rfl rfl rfl rfl ?_; intro b42
    refine qVH (id2 := 42) 100 kHZ rfl rfl rfl rfl rfl rfl rfl (by omega) (by omega) rfl rfl ?_; intro a43 c43 R43 hR43
    obtain rfl := Option.some.inj hR43
    refine qY (qV rfl) rfl rfl rfl ?_
    refine qX ?_
    refine zJ ?_
    refine zJ ?_
    refine qQ ?_
    refine qZ ?_
    refine qY (qJ rfl) rfl rfl rfl ?_
    refine qY (kG rfl rfl (zXK (by omega))) rfl rfl rfl ?_
    refine qY (qV rfl) rfl rfl rfl ?_
    refine qX ?_
    refine qJQ (k + 1, q + 1 + 1, a43, c43, cs ++ [j.lo + r40]) (by refine ⟨?_, ?_, ?_⟩ <;> dsimp only; omega; exact cfg_2 hjk hsh hr32 (of_decide_eq_false hc44) (of_decide_eq_false hc50) hr40; simp [hlen]) (by show js.length - (k + 1) < js.length - k; omega) (by dsimp only; rw [jJU]; rfl) ?_ ?_ rfl
    repeat' first | exact trivial | exact True.intro | refine ⟨rfl, ?_⟩
 ·
  obtain rfl : k = js.length := by have := of_decide_eq_false hc16; omega
  refine zKK ?_
  refine kK ?_
  refine kK ?_
  refine qZV ?_
  refine qQ ?_
  refine qW ?_
  refine qZ ?_
  refine qY (qJ rfl) rfl rfl rfl ?_
  refine qY (qV rfl) rfl rfl rfl ?_
  refine qX ?_
  refine qQ ?_
  refine jJ ?_
  refine zYQ (rs := [.tmp 4]) rfl (resC (uY rfl) (resN)) rfl ?_
  intro w2 k2
  obtain ⟨_, q2, q3⟩ := k2.facts _ List.mem_cons_self
  exact ⟨(a, cap), trivial, rfl, k2.grow, ownD a, yWZ _ _ _ _ _ _ _, fun z hz => ⟨(q2 z hz).1, (q2 z hz).2.1⟩, by dsimp only; rw [hsh]; exact q3⟩
end Go.Proofs.YthkhihoplfpgmaaGreat
namespace Go.Proofs.YthkhihoplfpgmaaGreat.Nu
open Go.Rx Rt Go.Sx Go.RowKit Od Ov Pc Na Nb Nc Nd Nx Nf Ng Nj Nl Nm Nn No Nq Nr Ns
noncomputable def kJH : List PV → Option (Bool × Ret) := fun ps => match ps with
 | [.n .i64 n, .n .i64 k] => some (decide (0 < k ∧ k ≤ 9223372036854775807), .v (.n .i64 (n % k)))
 | _ => none
theorem kJV : zW Tryz.prog 13 kJH := by
 intro ps r h
 unfold kJH at h
 split at h
 ·simp only [Option.some.injEq, Prod.mk.injEq] at h
  obtain ⟨hg, rfl⟩ := h
  exact zZ (qH Tryz.func13 (by kernel_rfl) (by kernel_rfl)) rfl rfl (fun w => kQX _ _ (of_decide_eq_true hg) w)
 ·cases h
theorem near_0 (js : Nat → J) (ms : Nat → Ms) (q : Nat → Int) (n m k : Nat) (c : Cn) (w : Nat) (e : Nat → Int) (hk : k ≤ 50) (hc : yY Tryz.prog 11 [.a [.lf n (fJ js), .lf m (fM ms)], .n .i64 1, .lf 0 (fQ e)] (.ow 29 10 (.l [cp c]))) : ∃ c' : Cn, yY Tryz.prog 12 [.a [.lf n (fJ js), .lf m (fM ms)], .n .i64 1, .lf 0 (fQ e), .lf k (fQ q)] (.ow 29 10 (.l [cp c'])) := by
 refine ⟨bif qOk js ms q n m k c then ⟨c.kind, c.link, c.p, c.n, (IntKind.i64.wrap ((qLo js ms q n m k c) + (-1966080))), (IntKind.i64.wrap ((IntKind.i64.wrap ((qLo js ms q n m k c) + (-1966080))) + 65536))⟩ else c, qG (N := 60) yK yZ (OrL.ok (l := [(11, o_cr [.a [.lf n (fJ js), .lf m (fM ms)], .n .i64 1, .lf 0 (fQ e)] (.ow 29 10 (.l [cp c]))), (13, kJH), (17, o_lk [.lf k (fQ q)] (decide (k ≤ 50)) (.v (.lf (bif smQ q k then k else 0) (fB (ptB q))))), (33, o_lk [.a [.lf n (fJ js), .lf m (fM ms)], .a (cp c), .lf (bif smQ q k then k else 0) (fB (ptB q))] (decide (k ≤ 50)) (.v (.t [.a [.n .i64 (qLo js ms q n m k c), .n .i64 (qHi js ms q n m k c)], .b (qOk js ms q n m k c)])))]) ⟨qJX hc, kJV, qVW (fun h => yXQ q k (of_decide_eq_true h)), qVW (fun h => jUX js ms (ptB q) n m (bif smQ q k then k else 0) c (kXU (of_decide_eq_true h))), trivial⟩) ?_⟩
 refine (by kernel_rfl : _ = bif (g1 [.a [.lf n (fJ js), .lf m (fM ms)], .n .i64 1, .lf 0 (fQ e)]) then (bif (g1 [.lf k (fQ q)] && decide (k ≤ 50)) then (bif (g1 [.a [.lf n (fJ js), .lf m (fM ms)], .a (cp c), .lf (bif smQ q k then k else 0) (fB (ptB q))] && decide (k ≤ 50)) then (bif (qOk js ms q n m k c) then some (.ow 29 10 (.l [[.n .i64 c.kind, .n .i64 c.link, .n .i64 c.p.x, .n .i64 c.p.y, .n .i64 c.p.z, .n .i64 c.n.x, .n .i64 c.n.y, .n .i64 c.n.z, .n .i64 (IntKind.i64.wrap ((qLo js ms q n m k c) + (-1966080))), .n .i64 (IntKind.i64.wrap ((IntKind.i64.wrap ((qLo js ms q n m k c) + (-1966080))) + 65536))]]), [])
 else some (.ow 29 10 (.l [(cp c)]), []))
 else none)
 else none)
 else none).trans ?_
 simp only [g1_t, decide_eq_true hk, Bool.and_self, cond_true]
 cases qOk js ms q n m k c <;> rfl
theorem near_1 (js : Nat → J) (ms : Nat → Ms) (q : Nat → Int) (n m k : Nat) (c : Cn) (w : Nat) (e : Nat → Int) (hk : k ≤ 50) (hc : yY Tryz.prog 11 [.a [.lf n (fJ js), .lf m (fM ms)], .n .i64 1, .lf 1 (fQ e)] (.ow 29 10 (.l [cp c]))) : ∃ c' : Cn, yY Tryz.prog 12 [.a [.lf n (fJ js), .lf m (fM ms)], .n .i64 1, .lf 1 (fQ e), .lf k (fQ q)] (.ow 29 10 (.l [cp c'])) := by
 refine ⟨bif qOk js ms q n m k c then ⟨c.kind, c.link, c.p, c.n, (IntKind.i64.wrap ((qLo js ms q n m k c) + (IntKind.i64.wrap ((IntKind.i64.wrap (((e (0 : Int).toNat) % 61) - 30)) * 65536)))), (IntKind.i64.wrap ((IntKind.i64.wrap ((qLo js ms q n m k c) + (IntKind.i64.wrap ((IntKind.i64.wrap (((e (0 : Int).toNat) % 61) - 30)) * 65536)))) + 65536))⟩ else c, qG (N := 60) yK yZ (OrL.ok (l := [(11, o_cr [.a [.lf n (fJ js), .lf m (fM ms)], .n .i64 1, .lf 1 (fQ e)] (.ow 29 10 (.l [cp c]))), (13, kJH), (17, o_lk [.lf k (fQ q)] (decide (k ≤ 50)) (.v (.lf (bif smQ q k then k else 0) (fB (ptB q))))), (33, o_lk [.a [.lf n (fJ js), .lf m (fM ms)], .a (cp c), .lf (bif smQ q k then k else 0) (fB (ptB q))] (decide (k ≤ 50)) (.v (.t [.a [.n .i64 (qLo js ms q n m k c), .n .i64 (qHi js ms q n m k c)], .b (qOk js ms q n m k c)])))]) ⟨qJX hc, kJV, qVW (fun h => yXQ q k (of_decide_eq_true h)), qVW (fun h => jUX js ms (ptB q) n m (bif smQ q k then k else 0) c (kXU (of_decide_eq_true h))), trivial⟩) ?_⟩
 refine (by kernel_rfl : _ = bif (g1 [.a [.lf n (fJ js), .lf m (fM ms)], .n .i64 1, .lf 1 (fQ e)]) then (bif (g1 [.lf k (fQ q)] && decide (k ≤ 50)) then (bif (g1 [.a [.lf n (fJ js), .lf m (fM ms)], .a (cp c), .lf (bif smQ q k then k else 0) (fB (ptB q))] && decide (k ≤ 50)) then (bif (qOk js ms q n m k c) then some (.ow 29 10 (.l [[.n .i64 c.kind, .n .i64 c.link, .n .i64 c.p.x, .n .i64 c.p.y, .n .i64 c.p.z, .n .i64 c.n.x, .n .i64 c.n.y, .n .i64 c.n.z, .n .i64 (IntKind.i64.wrap ((qLo js ms q n m k c) + (IntKind.i64.wrap ((IntKind.i64.wrap (((e (0 : Int).toNat) % 61) - 30)) * 65536)))), .n .i64 (IntKind.i64.wrap ((IntKind.i64.wrap ((qLo js ms q n m k c) + (IntKind.i64.wrap ((IntKind.i64.wrap (((e (0 : Int).toNat) % 61) - 30)) * 65536)))) + 65536))]]), [])
 else some (.ow 29 10 (.l [(cp c)]), []))
 else none)
 else none)
 else none).trans ?_
 simp only [g1_t, decide_eq_true hk, Bool.and_self, cond_true]
 cases qOk js ms q n m k c <;> rfl
theorem near_2 (js : Nat → J) (ms : Nat → Ms) (q : Nat → Int) (n m k : Nat) (c : Cn) (w : Nat) (e : Nat → Int) (hk : k ≤ 50) (hc : yY Tryz.prog 11 [.a [.lf n (fJ js), .lf m (fM ms)], .n .i64 1, .lf (w + 2) (fQ e)] (.ow 29 10 (.l [cp c]))) : ∃ c' : Cn, yY Tryz.prog 12 [.a [.lf n (fJ js), .lf m (fM ms)], .n .i64 1, .lf (w + 2) (fQ e), .lf k (fQ q)] (.ow 29 10 (.l [cp c'])) := by
 refine ⟨bif qOk js ms q n m k c then ⟨c.kind, c.link, c.p, c.n, (IntKind.i64.wrap ((qLo js ms q n m k c) + (IntKind.i64.wrap ((IntKind.i64.wrap (((e (0 : Int).toNat) % 61) - 30)) * 65536)))), (IntKind.i64.wrap ((IntKind.i64.wrap ((qLo js ms q n m k c) + (IntKind.i64.wrap ((IntKind.i64.wrap (((e (0 : Int).toNat) % 61) - 30)) * 65536)))) + (IntKind.i64.wrap ((IntKind.i64.wrap (1 + ((e (1 : Int).toNat) % 40))) * 65536))))⟩ else c, qG (N := 60) yK yZ (OrL.ok (l := [(11, o_cr [.a [.lf n (fJ js), .lf m (fM ms)], .n .i64 1, .lf (w + 2) (fQ e)] (.ow 29 10 (.l [cp c]))), (13, kJH), (17, o_lk [.lf k (fQ q)] (decide (k ≤ 50)) (.v (.lf (bif smQ q k then k else 0) (fB (ptB q))))), (33, o_lk [.a [.lf n (fJ js), .lf m (fM ms)], .a (cp c), .lf (bif smQ q k then k else 0) (fB (ptB q))] (decide (k ≤ 50)) (.v (.t [.a [.n .i64 (qLo js ms q n m k c), .n .i64 (qHi js ms q n m k c)], .b (qOk js ms q n m k c)])))]) ⟨qJX hc, kJV, qVW (fun h => yXQ q k (of_decide_eq_true h)), qVW (fun h => jUX js ms (ptB q) n m (bif smQ q k then k else 0) c (kXU (of_decide_eq_true h))), trivial⟩) ?_⟩
 refine (by kernel_rfl : _ = bif (g1 [.a [.lf n (fJ js), .lf m (fM ms)], .n .i64 1, .lf (w + 2) (fQ e)]) then (bif (g1 [.lf k (fQ q)] && decide (k ≤ 50)) then (bif (g1 [.a [.lf n (fJ js), .lf m (fM ms)], .a (cp c), .lf (bif smQ q k then k else 0) (fB (ptB q))] && decide (k ≤ 50)) then (bif (qOk js ms q n m k c) then some (.ow 29 10 (.l [[.n .i64 c.kind, .n .i64 c.link, .n .i64 c.p.x, .n .i64 c.p.y, .n .i64 c.p.z, .n .i64 c.n.x, .n .i64 c.n.y, .n .i64 c.n.z, .n .i64 (IntKind.i64.wrap ((qLo js ms q n m k c) + (IntKind.i64.wrap ((IntKind.i64.wrap (((e (0 : Int).toNat) % 61) - 30)) * 65536)))), .n .i64 (IntKind.i64.wrap ((IntKind.i64.wrap ((qLo js ms q n m k c) + (IntKind.i64.wrap ((IntKind.i64.wrap (((e (0 : Int).toNat) % 61) - 30)) * 65536)))) + (IntKind.i64.wrap ((IntKind.i64.wrap (1 + ((e (1 : Int).toNat) % 40))) * 65536))))]]), [])
 else some (.ow 29 10 (.l [(cp c)]), []))
 else none)
 else none)
 else none).trans ?_
 simp only [g1_t, decide_eq_true hk, Bool.and_self, cond_true]
 cases qOk js ms q n m k c <;> rfl
theorem snd_near (js : Nat → J) (ms : Nat → Ms) (q : Nat → Int) (n m k : Nat) (c : Cn) (w : Nat) (e : Nat → Int) (hk : k ≤ 50) (hc : yY Tryz.prog 11 [.a [.lf n (fJ js), .lf m (fM ms)], .n .i64 1, .lf w (fQ e)] (.ow 29 10 (.l [cp c]))) : ∃ c' : Cn, yY Tryz.prog 12 [.a [.lf n (fJ js), .lf m (fM ms)], .n .i64 1, .lf w (fQ e), .lf k (fQ q)] (.ow 29 10 (.l [cp c'])) := by
 rcases w with _ | _ | w
 ·exact near_0 js ms q n m k c 0 e hk hc
 ·exact near_1 js ms q n m k c 0 e hk hc
 ·exact near_2 js ms q n m k c w e hk hc
end Go.Proofs.YthkhihoplfpgmaaGreat.Nu
namespace Go.Proofs.YthkhihoplfpgmaaGreat.Nv
open Go.Rx Rt Go.Sx Go.RowKit Od Ov Pc Na Nb Nc Nd Nx Nf Ng Nj Nl Nm Nn No Nq Nr Ns Nu
def hSm (q u : Nat → Int) (k l : Nat) (i : Int) : St := ⟨[(0, .v (.lf k (fQ q))), (1, .v (.lf l (fQ u))), (5, .v (.n .i64 i))], []⟩
set_option maxRecDepth 100000 in
theorem rdSm (G : St → Option (Ret × Mem)) (K : Cont) (q u : Nat → Int) (k l : Nat) (i : Int) : zUZ 60 (cxF T (OrL.k ([] : OrL)) 60 19 (ntmF T 19)) (ckF T (OrL.k ([] : OrL)) 60) (qU T 19 [0, 1, 0, 1, 1]) ((cxF T (OrL.k ([] : OrL)) 60 19 (ntmF T 19)).T.hint (cxF T (OrL.k ([] : OrL)) 60 19 (ntmF T 19)).me (zU (qU T 19 [0, 1, 0, 1, 1]))) K G (hSm q u k l i) =
 (bif (decide (i < (k : Int))) then (bif (inB i k) then (bif (inB i l) then (bif (!decide ((q (i).toNat) = (u (i).toNat))) then (K .ret ⟨[(4, .v (.b false))], []⟩)
 else (G (hSm q u k l (IntKind.i64.wrap (i + 1)))))
 else none)
 else none)
 else (K (.exit 0) ⟨[], []⟩)) := by kernel_rfl
theorem lpSm (K : Cont) (q u : Nat → Int) (k l : Nat) (hk : k ≤ 50) (hl : k = l) : LF 60 (cxF T (OrL.k ([] : OrL)) 60 19 (ntmF T 19)) (ckF T (OrL.k ([] : OrL)) 60) (qU T 19 [0, 1, 0, 1, 1]) ((cxF T (OrL.k ([] : OrL)) 60 19 (ntmF T 19)).T.hint (cxF T (OrL.k ([] : OrL)) 60 19 (ntmF T 19)).me (zU (qU T 19 [0, 1, 0, 1, 1]))) K 60 (hSm q u k l 0) = bif (allN (fun i : Nat => decide (q i = u i)) k 0) then (K (.exit 0) ⟨[], []⟩) else (K .ret ⟨[(4, .v (.b false))], []⟩) := by
 refine (zKH (c := k) (hSm q u k l) (fun i : Nat => decide (q i = u i)) (K (.exit 0) ⟨[], []⟩) (fun i : Nat => (K .ret ⟨[(4, .v (.b false))], []⟩)) (fun G i hi => ?_) (fun G => ?_) k 0 60 (by omega) (by omega)).trans (qYG _ _ _ _ _)
 ·refine (rdSm G K q u k l i).trans ?_
  rw [decide_eq_true (show (i : Int) < (k : Int) by omega), qZY (by omega), kZ (show i < k by omega), kZ (show i < l by omega), toN]
  cases decide (q i = u i) <;> rfl
 ·refine (rdSm G K q u k l k).trans ?_
  rw [decide_eq_false (show ¬ (k : Int) < (k : Int) by omega)]
  rfl
def smB (q u : Nat → Int) (k l : Nat) : Bool := decide ((k : Int) = (l : Int)) && (allN (fun i : Nat => decide (q i = u i)) k 0)
set_option maxRecDepth 100000 in
theorem pxsam (q u : Nat → Int) (k l : Nat) : qUQ T (OrL.k ([] : OrL)) (zV [([0, 1, 0, 1, 1], jX (hSm q u k l 0) (fun K => (bif (decide (k ≤ 50) && decide (k = l)) then (bif (allN (fun i : Nat => decide (q i = u i)) k 0) then (K (.exit 0) ⟨[], []⟩) else (K .ret ⟨[(4, .v (.b false))], []⟩)) else none)))]) 60 19 [.lf k (fQ q), .lf l (fQ u)] =
 (bif (!decide ((k : Int) = (l : Int))) then some (.v (.b false), [])
 else (bif (gSt (hSm q u k l 0) (hSm q u k l 0)) then (bif (decide (k ≤ 50) && decide (k = l)) then (bif (allN (fun i : Nat => decide (q i = u i)) k 0) then some (.v (.b true), [])
 else some (.v (.b false), []))
 else none)
 else none)) := by kernel_rfl
theorem snd_sam (q u : Nat → Int) (k l : Nat) (hk : k ≤ 50) : yY Tryz.prog 19 [.lf k (fQ q), .lf l (fQ u)] (.v (.b (smB q u k l))) := by
 refine jV (N := 60) (LO := zV [([0, 1, 0, 1, 1], jX (hSm q u k l 0) (fun K => (bif (decide (k ≤ 50) && decide (k = l)) then (bif (allN (fun i : Nat => decide (q i = u i)) k 0) then (K (.exit 0) ⟨[], []⟩) else (K .ret ⟨[(4, .v (.b false))], []⟩)) else none)))]) yK yZ (OrL.ok (l := ([] : OrL)) trivial) (fun p S hp => ?_) ?_
 ·refine uJ (L := qU T 19) (l := [([0, 1, 0, 1, 1], jX (hSm q u k l 0) (fun K => (bif (decide (k ≤ 50) && decide (k = l)) then (bif (allN (fun i : Nat => decide (q i = u i)) k 0) then (K (.exit 0) ⟨[], []⟩) else (K .ret ⟨[(4, .v (.b false))], []⟩)) else none)))]) (show AllP _ [([0, 1, 0, 1, 1], jX (hSm q u k l 0) (fun K => (bif (decide (k ≤ 50) && decide (k = l)) then (bif (allN (fun i : Nat => decide (q i = u i)) k 0) then (K (.exit 0) ⟨[], []⟩) else (K .ret ⟨[(4, .v (.b false))], []⟩)) else none)))] from ⟨qQJ fun K r hr => ?_, trivial⟩) p S hp
  ·obtain ⟨hg, hr⟩ := zQ hr
   rw [Bool.and_eq_true] at hg
   have hk := of_decide_eq_true hg.1
   have hl := of_decide_eq_true hg.2
   exact (lpSm K q u k l hk hl).trans hr
 ·refine (pxsam q u k l).trans ?_
  unfold smB
  by_cases e : k = l
  ·rw [kJ, decide_eq_true hk, decide_eq_true e, decide_eq_true (show (k : Int) = (l : Int) by omega)]
   cases (allN (fun i : Nat => decide (q i = u i)) k 0) <;> rfl
  ·rw [decide_eq_false (show ¬ (k : Int) = (l : Int) by omega)]
   rfl
theorem sam_self (q : Nat → Int) (k : Nat) (hk : k ≤ 50) : yY Tryz.prog 19 [.lf k (fQ q), .lf k (fQ q)] (.v (.b true)) := by
 have h := snd_sam q q k k hk
 have e : smB q q k k = true := by
  unfold smB
  rw [decide_eq_true rfl, Bool.true_and]
  exact allN_iff.2 fun i _ _ => decide_eq_true rfl
 rw [e] at h
 exact h
noncomputable def gP (p : Prop) : Bool := @decide p (Classical.propDecidable _)
theorem kYW {p : Prop} (h : p) : gP p = true := @decide_eq_true _ (Classical.propDecidable _) h
theorem gP_spec {p : Prop} (h : gP p = true) : p := @of_decide_eq_true _ (Classical.propDecidable _) h
noncomputable def gSm (ps : List PV) : Bool := gP (∃ (k : Nat) (q : Nat → Int), k ≤ 50 ∧ ps = [.lf k (fQ q), .lf k (fQ q)])
noncomputable def o_sm : List PV → Option (Bool × Ret) := fun ps => some (gSm ps, .v (.b true))
theorem ok_sm : zW Tryz.prog 19 o_sm := by
 intro ps r hh
 unfold o_sm at hh
 simp only [Option.some.injEq, Prod.mk.injEq] at hh
 obtain ⟨hg, rfl⟩ := hh
 obtain ⟨k, q, hk, rfl⟩ := gP_spec hg
 exact sam_self q k hk
theorem gN_le (js : Nat → J) (ms : Nat → Ms) (q : Nat → Int) (n m k : Nat) (c : Cn) (hk : k ≤ 50) : gN js ms q n m k c ≤ 50 := by
 unfold gN
 cases gOk js ms q n m k c <;> simp <;> omega
theorem snd_steps (js : Nat → J) (ms : Nat → Ms) (q : Nat → Int) (n m k : Nat) (c : Cn) (hk : k ≤ 50) : yY Tryz.prog 10 [.a [.lf n (fJ js), .lf m (fM ms)], .a (cp c), .lf k (fQ q)] (.v (.b true)) := by
 refine qG (N := 60) yK yZ (OrL.ok (l := [(27, o_cr [.a [.lf n (fJ js), .lf m (fM ms)], .a (cp c), .lf k (fQ q)] (.v (.t [.lf (gN js ms q n m k c) (fQ (grF js ms q n m k c)), .b (gOk js ms q n m k c)]))), (28, o_cr [.a [.lf n (fJ js), .lf m (fM ms)], .a (cp c), .lf k (fQ q)] (.v (.t [.lf (gN js ms q n m k c) (fQ (grF js ms q n m k c)), .b (gOk js ms q n m k c)]))), (29, o_lk [.a [.lf n (fJ js), .lf m (fM ms)], .a (cp c), .lf k (fQ q)] (decide (k ≤ 50)) (.v (.t [.lf (gN js ms q n m k c) (fQ (stQ js ms q n m k c)), .b (gOk js ms q n m k c)]))), (30, o_lk [.a [.lf n (fJ js), .lf m (fM ms)], .a (cp c), .lf k (fQ q)] (decide (k ≤ 50)) (.v (.t [.lf (gN js ms q n m k c) (fQ (stQ js ms q n m k c)), .b (gOk js ms q n m k c)]))), (19, o_sm)]) ⟨qJX (snd_grd js ms q n m k c), qJX (snd_rgrd js ms q n m k c), qVW (fun h => snd_stp js ms q n m k c (of_decide_eq_true h)), qVW (fun h => snd_stt js ms q n m k c (of_decide_eq_true h)), ok_sm, trivial⟩) ?_
 refine (by kernel_rfl : _ = bif (g1 [.a [.lf n (fJ js), .lf m (fM ms)], .a (cp c), .lf k (fQ q)]) then (bif (gOk js ms q n m k c) then (bif (g1 [.a [.lf n (fJ js), .lf m (fM ms)], .a (cp c), .lf k (fQ q)]) then (bif (gOk js ms q n m k c) then (bif (g1 [.a [.lf n (fJ js), .lf m (fM ms)], .a (cp c), .lf k (fQ q)] && decide (k ≤ 50)) then (bif (gOk js ms q n m k c) then (bif (g1 [.a [.lf n (fJ js), .lf m (fM ms)], .a (cp c), .lf k (fQ q)] && decide (k ≤ 50)) then (bif (gOk js ms q n m k c) then (bif (gSm [.lf (gN js ms q n m k c) (fQ (grF js ms q n m k c)), .lf (gN js ms q n m k c) (fQ (grF js ms q n m k c))]) then (bif (gSm [.lf (gN js ms q n m k c) (fQ (stQ js ms q n m k c)), .lf (gN js ms q n m k c) (fQ (stQ js ms q n m k c))]) then some (.v (.b true), [])
 else none)
 else none)
 else some (.v (.b false), []))
 else none)
 else bif (g1 [.a [.lf n (fJ js), .lf m (fM ms)], .a (cp c), .lf k (fQ q)] && decide (k ≤ 50)) then (bif (gOk js ms q n m k c) then some (.v (.b false), [])
 else bif (gSm [.lf (gN js ms q n m k c) (fQ (grF js ms q n m k c)), .lf (gN js ms q n m k c) (fQ (grF js ms q n m k c))]) then (bif (gSm [.lf (gN js ms q n m k c) (fQ (stQ js ms q n m k c)), .lf (gN js ms q n m k c) (fQ (stQ js ms q n m k c))]) then some (.v (.b true), [])
 else none)
 else none)
 else none)
 else none)
 else bif (g1 [.a [.lf n (fJ js), .lf m (fM ms)], .a (cp c), .lf k (fQ q)] && decide (k ≤ 50)) then (bif (gOk js ms q n m k c) then (bif (g1 [.a [.lf n (fJ js), .lf m (fM ms)], .a (cp c), .lf k (fQ q)] && decide (k ≤ 50)) then (bif (gOk js ms q n m k c) then some (.v (.b false), [])
 else some (.v (.b false), []))
 else none)
 else bif (g1 [.a [.lf n (fJ js), .lf m (fM ms)], .a (cp c), .lf k (fQ q)] && decide (k ≤ 50)) then (bif (gOk js ms q n m k c) then some (.v (.b false), [])
 else some (.v (.b false), []))
 else none)
 else none)
 else none)
 else bif (g1 [.a [.lf n (fJ js), .lf m (fM ms)], .a (cp c), .lf k (fQ q)]) then (bif (gOk js ms q n m k c) then (bif (g1 [.a [.lf n (fJ js), .lf m (fM ms)], .a (cp c), .lf k (fQ q)] && decide (k ≤ 50)) then (bif (gOk js ms q n m k c) then (bif (g1 [.a [.lf n (fJ js), .lf m (fM ms)], .a (cp c), .lf k (fQ q)] && decide (k ≤ 50)) then (bif (gOk js ms q n m k c) then some (.v (.b false), [])
 else some (.v (.b false), []))
 else none)
 else bif (g1 [.a [.lf n (fJ js), .lf m (fM ms)], .a (cp c), .lf k (fQ q)] && decide (k ≤ 50)) then (bif (gOk js ms q n m k c) then some (.v (.b false), [])
 else some (.v (.b false), []))
 else none)
 else none)
 else bif (g1 [.a [.lf n (fJ js), .lf m (fM ms)], .a (cp c), .lf k (fQ q)] && decide (k ≤ 50)) then (bif (gOk js ms q n m k c) then (bif (g1 [.a [.lf n (fJ js), .lf m (fM ms)], .a (cp c), .lf k (fQ q)] && decide (k ≤ 50)) then (bif (gOk js ms q n m k c) then (bif (gSm [.lf (gN js ms q n m k c) (fQ (grF js ms q n m k c)), .lf (gN js ms q n m k c) (fQ (grF js ms q n m k c))]) then (bif (gSm [.lf (gN js ms q n m k c) (fQ (stQ js ms q n m k c)), .lf (gN js ms q n m k c) (fQ (stQ js ms q n m k c))]) then some (.v (.b true), [])
 else none)
 else none)
 else some (.v (.b false), []))
 else none)
 else bif (g1 [.a [.lf n (fJ js), .lf m (fM ms)], .a (cp c), .lf k (fQ q)] && decide (k ≤ 50)) then (bif (gOk js ms q n m k c) then some (.v (.b false), [])
 else bif (gSm [.lf (gN js ms q n m k c) (fQ (grF js ms q n m k c)), .lf (gN js ms q n m k c) (fQ (grF js ms q n m k c))]) then (bif (gSm [.lf (gN js ms q n m k c) (fQ (stQ js ms q n m k c)), .lf (gN js ms q n m k c) (fQ (stQ js ms q n m k c))]) then some (.v (.b true), [])
 else none)
 else none)
 else none)
 else none)
 else none)
 else none).trans ?_
 have h1 : gSm [.lf (gN js ms q n m k c) (fQ (grF js ms q n m k c)), .lf (gN js ms q n m k c) (fQ (grF js ms q n m k c))] = true := kYW ⟨_, _, gN_le js ms q n m k c hk, rfl⟩
 have h2 : gSm [.lf (gN js ms q n m k c) (fQ (stQ js ms q n m k c)), .lf (gN js ms q n m k c) (fQ (stQ js ms q n m k c))] = true := kYW ⟨_, _, gN_le js ms q n m k c hk, rfl⟩
 simp only [g1_t, decide_eq_true hk, Bool.and_self, cond_true, h1, h2, beq_self_eq_true]
 cases gOk js ms q n m k c <;> rfl
def j0 : J := ⟨ByteArray.empty, 0, 0, ⟨0, 0, 0⟩, 0, 0, 0, 0, 0, 0⟩
def m0 : Ms := ⟨0, 0, ⟨0, 0, 0⟩⟩
def jaOf (l : List Int) : Nat → J := fun i => (jsOf l 0 (nJ l 0)).1.getD i j0
def maOf (l : List Int) : Nat → Ms := fun i => (msOf l 0 (nM l 0)).getD i m0
theorem rob_same (l : List Int) : Same (robP l) (.a [.lf (nJ l 0) (fJ (jaOf l)), .lf (nM l 0) (fM (maOf l))]) := by
 refine Same.a ⟨Same.lf ?_, Same.lf ?_, trivial⟩
 ·have := zVG j0 jp (jsOf l 0 (nJ l 0)).1
  rw [qHG] at this
  exact this
 ·have := zVG m0 mp (msOf l 0 (nM l 0))
  rw [zWU] at this
  exact this
theorem rob_same' (l : List Int) : Same (.a [.lf (nJ l 0) (fJ (jaOf l)), .lf (nM l 0) (fM (maOf l))]) (robP l) := by
 refine Same.a ⟨Same.l ?_, Same.l ?_, trivial⟩
 ·have := zVG j0 jp (jsOf l 0 (nJ l 0)).1
  rw [qHG] at this
  exact this
 ·have := zVG m0 mp (msOf l 0 (nM l 0))
  rw [zWU] at this
  exact this
def iqOf (l : List Int) : Nat → Int := fun i => l.getD i 0
theorem yVH (l : List Int) : Same (zXJ l) (.lf l.length (fQ (iqOf l))) := Same.lf (zVG 0 (fun x => [PV.n .i64 x]) l)
theorem ints_same' (l : List Int) : Same (.lf l.length (fQ (iqOf l))) (zXJ l) := Same.l (zVG 0 (fun x => [PV.n .i64 x]) l)
noncomputable def kYV (l a : List Int) : List Int := (cfgs a (jsOf l 0 (nJ l 0)).1 (nJ l 0)).1
theorem cfgOf_len (l a : List Int) : (kYV l a).length = nJ l 0 := cfgs_len _ (by rw [qHG]; exact Nat.le_refl _)
theorem snd_cfg {l a : List Int} (ha : a.length ≤ 9223372036854775807) : yY Tryz.prog 9 [robP l, zXJ a] (.v (zXJ (kYV l a))) := by
 have hl : ((kYV l a).map fun x => [PV.n .i64 x]).length = nJ l 0 := by rw [List.length_map]; exact cfgOf_len l a
 refine jZZ (e := 2) (sz := 1) (yZJ (Φ := fun _ => True) (rows := (kYV l a).map fun x => [PV.n .i64 x]) (qH Tryz.func9 (by kernel_rfl) (by kernel_rfl)) (yJX _) (by decide) (fun w F vals hF hal => ?_))
 obtain ⟨v1, vs, rfl, h1, hal⟩ := qZH hal
 obtain ⟨v2, vs, rfl, h2, hal⟩ := qZH hal
 obtain rfl := zKV hal
 obtain ⟨aj, cj, am, cm, rfl, hj, hm'⟩ := rob_open hF h1
 have h := mkCfg v2 a aj am cj (nM l 0) cm (jsOf l 0 (nJ l 0)).1 (by rw [qHG]; have := nJ_b l 0; omega) (jsOf_b l 0 _) w (yJK ha hF h2) hj
 rw [qHG] at h
 rw [hl, zQK (g := ic) (fun _ => rfl)]
 exact h
noncomputable def cqOf (l a : List Int) : Nat → Int := iqOf (kYV l a)
theorem snd_cfgF {l a : List Int} (ha : a.length ≤ 9223372036854775807) : yY Tryz.prog 9 [.a [.lf (nJ l 0) (fJ (jaOf l)), .lf (nM l 0) (fM (maOf l))], zXJ a] (.v (.lf (nJ l 0) (fQ (cqOf l a)))) := by
 refine jZQ (ps := [robP l, zXJ a]) ⟨rob_same' l, Same.refl _, trivial⟩ ?_ (snd_cfg ha)
 have := yVH (kYV l a)
 rw [cfgOf_len] at this
 exact this
theorem snd_robF {l : List Int} (hl : l.length ≤ 9223372036854775807) : yY Tryz.prog 8 [zXJ l] (.v (.a [.lf (nJ l 0) (fJ (jaOf l)), .lf (nM l 0) (fM (maOf l))])) := qJK (rob_same l) (snd_robot hl)
theorem snd_consO {l m : List Int} {n : Nat} (hn : n ≤ 1000) (hm : m.length ≤ 9223372036854775807) : yY Tryz.prog 11 [.a [.lf (nJ l 0) (fJ (jaOf l)), .lf (nM l 0) (fM (maOf l))], .n .i64 n, zXJ m] (.ow 29 10 (.l ((jQX l m n).map cp))) := by
 have hl : ((jQX l m n).map cp).length = n := by rw [List.length_map]; exact yGK _ _ _ _
 refine qYZ (fun _ _ _ => Sames.al (ys := [robP l, _, _]) ⟨rob_same' l, Same.refl _, Same.refl _, trivial⟩) (yZJ (e := 29) (sz := 10) (rows := (jQX l m n).map cp) (Φ := fun x => n ≤ x.2) (qH Tryz.func11 (by kernel_rfl) (by kernel_rfl)) (yUY (fun _ => rfl) _) (by decide) (fun w F vals hF hal => ?_))
 obtain ⟨v1, vs, rfl, h1, hal⟩ := qZH hal
 obtain ⟨v2, vs, rfl, h2, hal⟩ := qZH hal
 obtain ⟨v3, vs, rfl, h3, hal⟩ := qZH hal
 obtain rfl := zKV hal
 obtain ⟨aj, cj, am, cm, rfl, hj, hm'⟩ := rob_open hF h1
 obtain rfl : v2 = .int .i64 (n : Int) := by cases h2; rfl
 have hb := nJ_b l 0
 rw [hl, zQK (g := cnc) (fun _ => rfl)]
 exact mkConsO v3 m aj am cj (nJ l 0) (nM l 0) cm n hn (by omega) w (yJK hm hF h3)
def isSt (ps : List PV) : Prop := ∃ (js : Nat → J) (ms : Nat → Ms) (q : Nat → Int) (n m k : Nat) (c : Cn), k ≤ 50 ∧ ps = [.a [.lf n (fJ js), .lf m (fM ms)], .a (cp c), .lf k (fQ q)]
noncomputable def o_st : List PV → Option (Bool × Ret) := fun ps => some (gP (isSt ps), .v (.b true))
theorem ok_st : zW Tryz.prog 10 o_st := by
 intro ps r hh
 unfold o_st at hh
 simp only [Option.some.injEq, Prod.mk.injEq] at hh
 obtain ⟨hg, rfl⟩ := hh
 obtain ⟨js, ms, q, n, m, k, c, hk, rfl⟩ := gP_spec hg
 exact snd_steps js ms q n m k c hk
theorem gen_law (js : Nat → J) (ms : Nat → Ms) (n m : Nat) (c : Cn) (q : Nat → Int) (k : Nat) (ja : Nat → J) (ma : Nat → Ms) (na ga : Nat) (qa : Nat → Int) (ka : Nat) (d d2 : Cn) (L M AL : List (List PV)) (hka : ka ≤ 50) (h0 : yY Tryz.prog 7 [] (.v (.b true))) (h1 : yY Tryz.prog 8 [.l L] (.v (.a [.lf na (fJ ja), .lf ga (fM ma)]))) (h2 : yY Tryz.prog 9 [.a [.lf na (fJ ja), .lf ga (fM ma)], .l AL] (.v (.lf ka (fQ qa)))) (h3 : yY Tryz.prog 11 [.a [.lf na (fJ ja), .lf ga (fM ma)], .n .i64 1, .l M] (.ow 29 10 (.l [cp d]))) (h4 : yY Tryz.prog 12 [.a [.lf na (fJ ja), .lf ga (fM ma)], .n .i64 1, .l M, .lf ka (fQ qa)] (.ow 29 10 (.l [cp d2]))) :
  yY Tryz.prog 3 [.a [.lf n (fJ js), .lf m (fM ms)], .a (cp c), .lf k (fQ q), .l L, .l M, .l AL] (.v (.b true)) := by
 refine qG (N := 60) yK yZ (OrL.ok (l := [(7, o_cr [] (.v (.b true))), (8, o_cr [.l L] (.v (.a [.lf na (fJ ja), .lf ga (fM ma)]))), (9, o_cr [.a [.lf na (fJ ja), .lf ga (fM ma)], .l AL] (.v (.lf ka (fQ qa)))), (10, o_st), (11, o_cr [.a [.lf na (fJ ja), .lf ga (fM ma)], .n .i64 1, .l M] (.ow 29 10 (.l [cp d]))), (12, o_cr [.a [.lf na (fJ ja), .lf ga (fM ma)], .n .i64 1, .l M, .lf ka (fQ qa)] (.ow 29 10 (.l [cp d2])))]) ⟨qJX h0, qJX h1, qJX h2, ok_st, qJX h3, qJX h4, trivial⟩) ?_
 refine (by kernel_rfl : _ = bif (decide (12 < (n : Int))) then (bif (g1 []) then some (.v (.b true), [])
 else none)
 else bif (decide (20 < (k : Int))) then (bif (g1 []) then some (.v (.b true), [])
 else none)
 else bif (g1 [(.l L)]) then (bif (g1 [.a [.lf na (fJ ja), .lf ga (fM ma)], (.l AL)]) then (bif (g1 []) then (bif (gP (isSt [.a [.lf n (fJ js), .lf m (fM ms)], .a (cp c), .lf k (fQ q)])) then (bif (g1 [.a [.lf na (fJ ja), .lf ga (fM ma)], .n .i64 1, (.l M)]) then (bif (gP (isSt [.a [.lf na (fJ ja), .lf ga (fM ma)], .a (cp d), .lf ka (fQ qa)])) then (bif (g1 [.a [.lf na (fJ ja), .lf ga (fM ma)], .n .i64 1, (.l M), .lf ka (fQ qa)]) then (bif (gP (isSt [.a [.lf na (fJ ja), .lf ga (fM ma)], .a (cp d2), .lf ka (fQ qa)])) then (bif (gP (isSt [.a [.lf na (fJ ja), .lf ga (fM ma)], .a (cp c), .lf ka (fQ qa)])) then some (.v (.b true), [])
 else none)
 else none)
 else none)
 else none)
 else none)
 else none)
 else none)
 else none)
 else none).trans ?_
 by_cases hk : 20 < (k : Int)
 ·simp only [decide_eq_true hk, g1_t, cond_true, Bool.cond_self]
 ·have v1 : gP (isSt [.a [.lf n (fJ js), .lf m (fM ms)], .a (cp c), .lf k (fQ q)]) = true := kYW ⟨js, ms, q, n, m, k, c, by omega, rfl⟩
  have v2 : gP (isSt [.a [.lf na (fJ ja), .lf ga (fM ma)], .a (cp d), .lf ka (fQ qa)]) = true := kYW ⟨ja, ma, qa, na, ga, ka, d, hka, rfl⟩
  have v3 : gP (isSt [.a [.lf na (fJ ja), .lf ga (fM ma)], .a (cp d2), .lf ka (fQ qa)]) = true := kYW ⟨ja, ma, qa, na, ga, ka, d2, hka, rfl⟩
  have v4 : gP (isSt [.a [.lf na (fJ ja), .lf ga (fM ma)], .a (cp c), .lf ka (fQ qa)]) = true := kYW ⟨ja, ma, qa, na, ga, ka, c, hka, rfl⟩
  simp only [decide_eq_false hk, g1_t, v1, v2, v3, v4, cond_true, cond_false, Bool.cond_self]
theorem snd_law (js : Nat → J) (ms : Nat → Ms) (n m : Nat) (c : Cn) (qq l mm a : List Int) (hq : qq.length ≤ 9223372036854775807) (hl : l.length ≤ 9223372036854775807) (hm : mm.length ≤ 9223372036854775807) (ha : a.length ≤ 9223372036854775807) (h0 : yY Tryz.prog 7 [] (.v (.b true))) :
  yY Tryz.prog 3 [.a [.lf n (fJ js), .lf m (fM ms)], .a (cp c), zXJ qq, zXJ l, zXJ mm, zXJ a] (.v (.b true)) := by
 have hb := nJ_b l 0
 obtain ⟨d, hd⟩ : ∃ d, jQX l mm 1 = [d] := by
  have h : (jQX l mm 1).length = 1 := yGK _ _ _ _
  match jQX l mm 1, h with
  | [d], _ => exact ⟨d, rfl⟩
 have hc := snd_consO (l := l) (n := 1) (by omega) hm
 rw [hd] at hc
 have hc' := qYZ (ps' := [.a [.lf (nJ l 0) (fJ (jaOf l)), .lf (nM l 0) (fM (maOf l))], .n .i64 1, .lf mm.length (fQ (iqOf mm))]) (fun _ _ _ => Sames.al (ys := [_, _, _]) ⟨Same.refl _, Same.refl _, ints_same' mm, trivial⟩) hc
 obtain ⟨d2, hn⟩ := snd_near (jaOf l) (maOf l) (cqOf l a) (nJ l 0) (nM l 0) (nJ l 0) d mm.length (iqOf mm) (by omega) hc'
 have hn' := qYZ (ps' := [.a [.lf (nJ l 0) (fJ (jaOf l)), .lf (nM l 0) (fM (maOf l))], .n .i64 1, zXJ mm, .lf (nJ l 0) (fQ (cqOf l a))]) (fun _ _ _ => Sames.al (ys := [_, _, _, _]) ⟨Same.refl _, Same.refl _, yVH mm, Same.refl _, trivial⟩) hn
 have h := gen_law js ms n m c (iqOf qq) qq.length (jaOf l) (maOf l) (nJ l 0) (nM l 0) (cqOf l a) (nJ l 0) d d2 _ _ _ (by omega) h0 (snd_robF hl) (snd_cfgF ha) hc hn'
 exact qYZ (fun _ _ _ => Sames.al (ys := [_, _, _, _, _, _]) ⟨Same.refl _, Same.refl _, yVH qq, Same.refl _, Same.refl _, Same.refl _, trivial⟩) h
end Go.Proofs.YthkhihoplfpgmaaGreat.Nv
namespace Go.Proofs.YthkhihoplfpgmaaGreat.Ni
open Go.Rx Rt Go.Sx Go.RowKit Go.ChangeShapes Go.WideShapes Od Ov Pc Na Nb Nc Nd Nx
def shJ : List Sh := [.s, .i .i64, .i .i64, .i .i64, .i .i64, .i .i64, .i .i64, .i .i64, .i .i64, .i .i64, .i .i64, .i .i64]
theorem row_J {ps : List PV} (h : Fits shJ ps) : ∃ a : J, ps = jp a := by
 unfold shJ at h
 obtain ⟨p0, q0, rfl, f0, h⟩ := h.cons
 obtain ⟨p1, q1, rfl, f1, h⟩ := h.cons
 obtain ⟨p2, q2, rfl, f2, h⟩ := h.cons
 obtain ⟨p3, q3, rfl, f3, h⟩ := h.cons
 obtain ⟨p4, q4, rfl, f4, h⟩ := h.cons
 obtain ⟨p5, q5, rfl, f5, h⟩ := h.cons
 obtain ⟨p6, q6, rfl, f6, h⟩ := h.cons
 obtain ⟨p7, q7, rfl, f7, h⟩ := h.cons
 obtain ⟨p8, q8, rfl, f8, h⟩ := h.cons
 obtain ⟨p9, q9, rfl, f9, h⟩ := h.cons
 obtain ⟨p10, q10, rfl, f10, h⟩ := h.cons
 obtain ⟨p11, q11, rfl, f11, h⟩ := h.cons
 obtain rfl := h.nil
 obtain ⟨x0, rfl⟩ := f0.str
 obtain ⟨x1, rfl, _⟩ := f1.int
 obtain ⟨x2, rfl, _⟩ := f2.int
 obtain ⟨x3, rfl, _⟩ := f3.int
 obtain ⟨x4, rfl, _⟩ := f4.int
 obtain ⟨x5, rfl, _⟩ := f5.int
 obtain ⟨x6, rfl, _⟩ := f6.int
 obtain ⟨x7, rfl, _⟩ := f7.int
 obtain ⟨x8, rfl, _⟩ := f8.int
 obtain ⟨x9, rfl, _⟩ := f9.int
 obtain ⟨x10, rfl, _⟩ := f10.int
 obtain ⟨x11, rfl, _⟩ := f11.int
 exact ⟨⟨x0, x1, x2, ⟨x3, x4, x5⟩, x6, x7, x8, x9, x10, x11⟩, rfl⟩
def shM : List Sh := [.i .i64, .i .i64, .i .i64, .i .i64, .i .i64]
theorem row_M {ps : List PV} (h : Fits shM ps) : ∃ a : Ms, ps = mp a := by
 unfold shM at h
 obtain ⟨p0, q0, rfl, f0, h⟩ := h.cons
 obtain ⟨p1, q1, rfl, f1, h⟩ := h.cons
 obtain ⟨p2, q2, rfl, f2, h⟩ := h.cons
 obtain ⟨p3, q3, rfl, f3, h⟩ := h.cons
 obtain ⟨p4, q4, rfl, f4, h⟩ := h.cons
 obtain rfl := h.nil
 obtain ⟨x0, rfl, _⟩ := f0.int
 obtain ⟨x1, rfl, _⟩ := f1.int
 obtain ⟨x2, rfl, _⟩ := f2.int
 obtain ⟨x3, rfl, _⟩ := f3.int
 obtain ⟨x4, rfl, _⟩ := f4.int
 exact ⟨⟨x0, x1, ⟨x2, x3, x4⟩⟩, rfl⟩
def shC : List Sh := [.i .i64, .i .i64, .i .i64, .i .i64, .i .i64, .i .i64, .i .i64, .i .i64, .i .i64, .i .i64]
theorem row_C {ps : List PV} (h : Fits shC ps) : ∃ a : Cn, ps = cp a := by
 unfold shC at h
 obtain ⟨p0, q0, rfl, f0, h⟩ := h.cons
 obtain ⟨p1, q1, rfl, f1, h⟩ := h.cons
 obtain ⟨p2, q2, rfl, f2, h⟩ := h.cons
 obtain ⟨p3, q3, rfl, f3, h⟩ := h.cons
 obtain ⟨p4, q4, rfl, f4, h⟩ := h.cons
 obtain ⟨p5, q5, rfl, f5, h⟩ := h.cons
 obtain ⟨p6, q6, rfl, f6, h⟩ := h.cons
 obtain ⟨p7, q7, rfl, f7, h⟩ := h.cons
 obtain ⟨p8, q8, rfl, f8, h⟩ := h.cons
 obtain ⟨p9, q9, rfl, f9, h⟩ := h.cons
 obtain rfl := h.nil
 obtain ⟨x0, rfl, _⟩ := f0.int
 obtain ⟨x1, rfl, _⟩ := f1.int
 obtain ⟨x2, rfl, _⟩ := f2.int
 obtain ⟨x3, rfl, _⟩ := f3.int
 obtain ⟨x4, rfl, _⟩ := f4.int
 obtain ⟨x5, rfl, _⟩ := f5.int
 obtain ⟨x6, rfl, _⟩ := f6.int
 obtain ⟨x7, rfl, _⟩ := f7.int
 obtain ⟨x8, rfl, _⟩ := f8.int
 obtain ⟨x9, rfl, _⟩ := f9.int
 exact ⟨⟨x0, x1, ⟨x2, x3, x4⟩, ⟨x5, x6, x7⟩, x8, x9⟩, rfl⟩
section
variable {W : World} {H : Type} {enc : TypeId × Value → H} {r : Reach} {base : Nat} {v : Value} {d : DataW H} {p : List MemPlace}
abbrev RW (W : World) : PV → Value → Prop := RP (fun k => k < W.heap.size) W
theorem shT_r : shT Tryz.prog 8 25 = some [.l shJ, .l shM] := by kernel_rfl
theorem shT_c : shT Tryz.prog 8 29 = some shC := by kernel_rfl
set_option maxRecDepth 100000 in
theorem open_robot (hv : Value.okWide Tryz.prog W r base 25 v) (h : DataW.Trod enc Tryz.prog W 0 (fun _ => true) true 25 v d p) : ∃ (js : Nat → J) (ms : Nat → Ms) (n m : Nat), RW W (.a [.lf n (fJ js), .lf m (fM ms)]) v := by
 obtain ⟨ps, hr, hf⟩ := open_str Tryz.underlying25 hv h shT_r
 obtain ⟨p1, ps, rfl, f1, hf⟩ := hf.cons
 obtain ⟨p2, ps, rfl, f2, hf⟩ := hf.cons
 obtain rfl := hf.nil
 obtain ⟨n, f, rfl, g1⟩ := f1.slc
 obtain ⟨m, g, rfl, g2⟩ := f2.slc
 obtain ⟨js, hj⟩ : ∃ js : Nat → J, ∀ j, j < n → f j = fJ js j := by
  have each : ∀ j, ∃ a : J, j < n → f j = jp a := fun j => by
   by_cases hj : j < n
   ·obtain ⟨a, ha⟩ := row_J (g1 j hj); exact ⟨a, fun _ => ha⟩
   ·exact ⟨⟨ByteArray.empty, 0, 0, ⟨0, 0, 0⟩, 0, 0, 0, 0, 0, 0⟩, fun h => absurd h hj⟩
  obtain ⟨js, hjs⟩ := Classical.axiomOfChoice each
  exact ⟨js, hjs⟩
 obtain ⟨ms, hm⟩ : ∃ ms : Nat → Ms, ∀ j, j < m → g j = fM ms j := by
  have each : ∀ j, ∃ a : Ms, j < m → g j = mp a := fun j => by
   by_cases hj : j < m
   ·obtain ⟨a, ha⟩ := row_M (g2 j hj); exact ⟨a, fun _ => ha⟩
   ·exact ⟨⟨0, 0, ⟨0, 0, 0⟩⟩, fun h => absurd h hj⟩
  obtain ⟨ms, hms⟩ := Classical.axiomOfChoice each
  exact ⟨ms, hms⟩
 have s : Sames [.lf n f, .lf m g] [.lf n (fJ js), .lf m (fM ms)] := ⟨zXZ hj, zXZ hm, trivial⟩
 exact ⟨js, ms, n, m, Same.a s _ _ _ hr⟩
set_option maxRecDepth 100000 in
theorem open_con (hv : Value.okWide Tryz.prog W r base 29 v) (h : DataW.Trod enc Tryz.prog W 0 (fun _ => true) true 29 v d p) : ∃ c : Cn, RW W (.a (cp c)) v := by
 obtain ⟨ps, hr, hf⟩ := open_str Tryz.underlying29 hv h shT_c
 obtain ⟨c, rfl⟩ := row_C hf
 exact ⟨c, hr⟩
end
end Go.Proofs.YthkhihoplfpgmaaGreat.Ni
namespace Go.Proofs.YthkhihoplfpgmaaGreat.Aw
open Go.Rx Rt
noncomputable def k140 : List (List PV × Ret) := [([.a [.n .i64 65536, .n .i64 65536, .n .i64 0, .n .i64 0, .n .i64 0, .n .i64 0, .n .i64 0, .n .i64 0, .n .i64 65536, .n .i64 65536, .n .i64 0, .n .i64 0, .n .i64 0, .n .i64 0, .n .i64 0, .n .i64 0, .n .i64 65536, .n .i64 65536, .n .i64 0, .n .i64 0, .n .i64 0, .n .i64 0, .n .i64 0, .n .i64 0], .a [.n .i64 65536, .n .i64 65536, .n .i64 0, .n .i64 0, .n .i64 0, .n .i64 0, .n .i64 0, .n .i64 0, .n .i64 65536, .n .i64 65536, .n .i64 0, .n .i64 0, .n .i64 0, .n .i64 0, .n .i64 0, .n .i64 0, .n .i64 65536, .n .i64 65536, .n .i64 5, .n .i64 5, .n .i64 0, .n .i64 0, .n .i64 0, .n .i64 0]], .v (.a [.n .i64 65536, .n .i64 65536, .n .i64 0, .n .i64 0, .n .i64 0, .n .i64 0, .n .i64 0, .n .i64 0, .n .i64 65536, .n .i64 65536, .n .i64 0, .n .i64 0, .n .i64 0, .n .i64 0, .n .i64 0, .n .i64 0, .n .i64 65536, .n .i64 65536, .n .i64 5, .n .i64 5, .n .i64 0, .n .i64 0, .n .i64 0, .n .i64 0])),
 ([.a [.n .i64 65536, .n .i64 65536, .n .i64 0, .n .i64 0, .n .i64 0, .n .i64 0, .n .i64 0, .n .i64 0, .n .i64 65536, .n .i64 65536, .n .i64 0, .n .i64 0, .n .i64 0, .n .i64 0, .n .i64 0, .n .i64 0, .n .i64 65536, .n .i64 65536, .n .i64 0, .n .i64 0, .n .i64 0, .n .i64 0, .n .i64 0, .n .i64 0], .a [.n .i64 65536, .n .i64 65536, .n .i64 0, .n .i64 0, .n .i64 0, .n .i64 0, .n .i64 0, .n .i64 0, .n .i64 65536, .n .i64 65536, .n .i64 0, .n .i64 0, .n .i64 0, .n .i64 0, .n .i64 0, .n .i64 0, .n .i64 65536, .n .i64 65536, .n .i64 0, .n .i64 0, .n .i64 7, .n .i64 7, .n .i64 0, .n .i64 0]], .v (.a [.n .i64 65536, .n .i64 65536, .n .i64 0, .n .i64 0, .n .i64 0, .n .i64 0, .n .i64 0, .n .i64 0, .n .i64 65536, .n .i64 65536, .n .i64 0, .n .i64 0, .n .i64 0, .n .i64 0, .n .i64 0, .n .i64 0, .n .i64 65536, .n .i64 65536, .n .i64 0, .n .i64 0, .n .i64 7, .n .i64 7, .n .i64 0, .n .i64 0])),
 ([.a [.n .i64 65536, .n .i64 65536, .n .i64 0, .n .i64 0, .n .i64 0, .n .i64 0, .n .i64 0, .n .i64 0, .n .i64 65536, .n .i64 65536, .n .i64 0, .n .i64 0, .n .i64 0, .n .i64 0, .n .i64 0, .n .i64 0, .n .i64 65536, .n .i64 65536, .n .i64 5, .n .i64 5, .n .i64 0, .n .i64 0, .n .i64 0, .n .i64 0], .a [.n .i64 65536, .n .i64 65536, .n .i64 0, .n .i64 0, .n .i64 0, .n .i64 0, .n .i64 0, .n .i64 0, .n .i64 65536, .n .i64 65536, .n .i64 0, .n .i64 0, .n .i64 0, .n .i64 0, .n .i64 0, .n .i64 0, .n .i64 65536, .n .i64 65536, .n .i64 0, .n .i64 0, .n .i64 7, .n .i64 7, .n .i64 0, .n .i64 0]], .v (.a [.n .i64 65536, .n .i64 65536, .n .i64 0, .n .i64 0, .n .i64 0, .n .i64 0, .n .i64 0, .n .i64 0, .n .i64 65536, .n .i64 65536, .n .i64 0, .n .i64 0, .n .i64 0, .n .i64 0, .n .i64 0, .n .i64 0, .n .i64 65536, .n .i64 65536, .n .i64 5, .n .i64 5, .n .i64 7, .n .i64 7, .n .i64 0, .n .i64 0])),
 ([.a [.n .i64 65536, .n .i64 65536, .n .i64 0, .n .i64 0, .n .i64 0, .n .i64 0, .n .i64 0, .n .i64 0, .n .i64 65536, .n .i64 65536, .n .i64 0, .n .i64 0, .n .i64 0, .n .i64 0, .n .i64 0, .n .i64 0, .n .i64 65536, .n .i64 65536, .n .i64 0, .n .i64 0, .n .i64 0, .n .i64 0, .n .i64 0, .n .i64 0], .a [.n .i64 65536, .n .i64 65536, .n .i64 0, .n .i64 0, .n .i64 0, .n .i64 0, .n .i64 0, .n .i64 0, .n .i64 65536, .n .i64 65536, .n .i64 0, .n .i64 0, .n .i64 0, .n .i64 0, .n .i64 0, .n .i64 0, .n .i64 65536, .n .i64 65536, .n .i64 0, .n .i64 0, .n .i64 0, .n .i64 0, .n .i64 0, .n .i64 0]], .v (.a [.n .i64 65536, .n .i64 65536, .n .i64 0, .n .i64 0, .n .i64 0, .n .i64 0, .n .i64 0, .n .i64 0, .n .i64 65536, .n .i64 65536, .n .i64 0, .n .i64 0, .n .i64 0, .n .i64 0, .n .i64 0, .n .i64 0, .n .i64 65536, .n .i64 65536, .n .i64 0, .n .i64 0, .n .i64 0, .n .i64 0, .n .i64 0, .n .i64 0])),
 ([.a [.n .i64 65536, .n .i64 65536, .n .i64 0, .n .i64 0, .n .i64 0, .n .i64 0, .n .i64 0, .n .i64 0, .n .i64 65536, .n .i64 65536, .n .i64 0, .n .i64 0, .n .i64 0, .n .i64 0, .n .i64 0, .n .i64 0, .n .i64 65536, .n .i64 65536, .n .i64 0, .n .i64 0, .n .i64 0, .n .i64 0, .n .i64 0, .n .i64 0], .a [.n .i64 65536, .n .i64 65536, .n .i64 0, .n .i64 0, .n .i64 0, .n .i64 0, .n .i64 0, .n .i64 0, .n .i64 65536, .n .i64 65536, .n .i64 0, .n .i64 0, .n .i64 0, .n .i64 0, .n .i64 0, .n .i64 0, .n .i64 65536, .n .i64 65536, .n .i64 69, .n .i64 69, .n .i64 0, .n .i64 0, .n .i64 0, .n .i64 0]], .v (.a [.n .i64 65536, .n .i64 65536, .n .i64 0, .n .i64 0, .n .i64 0, .n .i64 0, .n .i64 0, .n .i64 0, .n .i64 65536, .n .i64 65536, .n .i64 0, .n .i64 0, .n .i64 0, .n .i64 0, .n .i64 0, .n .i64 0, .n .i64 65536, .n .i64 65536, .n .i64 69, .n .i64 69, .n .i64 0, .n .i64 0, .n .i64 0, .n .i64 0])),
 ([.a [.n .i64 65536, .n .i64 65536, .n .i64 0, .n .i64 0, .n .i64 0, .n .i64 0, .n .i64 0, .n .i64 0, .n .i64 65536, .n .i64 65536, .n .i64 0, .n .i64 0, .n .i64 0, .n .i64 0, .n .i64 0, .n .i64 0, .n .i64 65536, .n .i64 65536, .n .i64 69, .n .i64 69, .n .i64 0, .n .i64 0, .n .i64 0, .n .i64 0], .a [.n .i64 65536, .n .i64 65536, .n .i64 0, .n .i64 0, .n .i64 0, .n .i64 0, .n .i64 0, .n .i64 0, .n .i64 65536, .n .i64 65536, .n .i64 0, .n .i64 0, .n .i64 0, .n .i64 0, .n .i64 0, .n .i64 0, .n .i64 65536, .n .i64 65536, .n .i64 0, .n .i64 0, .n .i64 7, .n .i64 7, .n .i64 0, .n .i64 0]], .v (.a [.n .i64 65536, .n .i64 65536, .n .i64 0, .n .i64 0, .n .i64 0, .n .i64 0, .n .i64 0, .n .i64 0, .n .i64 65536, .n .i64 65536, .n .i64 0, .n .i64 0, .n .i64 0, .n .i64 0, .n .i64 0, .n .i64 0, .n .i64 65536, .n .i64 65536, .n .i64 69, .n .i64 69, .n .i64 7, .n .i64 7, .n .i64 0, .n .i64 0])),
 ([.a [.n .i64 65536, .n .i64 65536, .n .i64 0, .n .i64 0, .n .i64 0, .n .i64 0, .n .i64 0, .n .i64 0, .n .i64 65536, .n .i64 65536, .n .i64 0, .n .i64 0, .n .i64 0, .n .i64 0, .n .i64 0, .n .i64 0, .n .i64 65536, .n .i64 65536, .n .i64 5, .n .i64 5, .n .i64 0, .n .i64 0, .n .i64 0, .n .i64 0], .a [.n .i64 65536, .n .i64 65536, .n .i64 0, .n .i64 0, .n .i64 0, .n .i64 0, .n .i64 0, .n .i64 0, .n .i64 65536, .n .i64 65536, .n .i64 0, .n .i64 0, .n .i64 0, .n .i64 0, .n .i64 0, .n .i64 0, .n .i64 65536, .n .i64 65536, .n .i64 0, .n .i64 0, .n .i64 0, .n .i64 0, .n .i64 0, .n .i64 0]], .v (.a [.n .i64 65536, .n .i64 65536, .n .i64 0, .n .i64 0, .n .i64 0, .n .i64 0, .n .i64 0, .n .i64 0, .n .i64 65536, .n .i64 65536, .n .i64 0, .n .i64 0, .n .i64 0, .n .i64 0, .n .i64 0, .n .i64 0, .n .i64 65536, .n .i64 65536, .n .i64 5, .n .i64 5, .n .i64 0, .n .i64 0, .n .i64 0, .n .i64 0])),
 ([.a [.n .i64 65536, .n .i64 65536, .n .i64 0, .n .i64 0, .n .i64 0, .n .i64 0, .n .i64 0, .n .i64 0, .n .i64 65536, .n .i64 65536, .n .i64 0, .n .i64 0, .n .i64 0, .n .i64 0, .n .i64 0, .n .i64 0, .n .i64 65536, .n .i64 65536, .n .i64 0, .n .i64 0, .n .i64 0, .n .i64 0, .n .i64 0, .n .i64 0], .a [.n .i64 65536, .n .i64 65536, .n .i64 0, .n .i64 0, .n .i64 0, .n .i64 0, .n .i64 0, .n .i64 0, .n .i64 65536, .n .i64 65536, .n .i64 0, .n .i64 0, .n .i64 0, .n .i64 0, .n .i64 0, .n .i64 0, .n .i64 65536, .n .i64 65536, .n .i64 0, .n .i64 0, .n .i64 71, .n .i64 71, .n .i64 0, .n .i64 0]], .v (.a [.n .i64 65536, .n .i64 65536, .n .i64 0, .n .i64 0, .n .i64 0, .n .i64 0, .n .i64 0, .n .i64 0, .n .i64 65536, .n .i64 65536, .n .i64 0, .n .i64 0, .n .i64 0, .n .i64 0, .n .i64 0, .n .i64 0, .n .i64 65536, .n .i64 65536, .n .i64 0, .n .i64 0, .n .i64 71, .n .i64 71, .n .i64 0, .n .i64 0])),
 ([.a [.n .i64 65536, .n .i64 65536, .n .i64 0, .n .i64 0, .n .i64 0, .n .i64 0, .n .i64 0, .n .i64 0, .n .i64 65536, .n .i64 65536, .n .i64 0, .n .i64 0, .n .i64 0, .n .i64 0, .n .i64 0, .n .i64 0, .n .i64 65536, .n .i64 65536, .n .i64 5, .n .i64 5, .n .i64 0, .n .i64 0, .n .i64 0, .n .i64 0], .a [.n .i64 65536, .n .i64 65536, .n .i64 0, .n .i64 0, .n .i64 0, .n .i64 0, .n .i64 0, .n .i64 0, .n .i64 65536, .n .i64 65536, .n .i64 0, .n .i64 0, .n .i64 0, .n .i64 0, .n .i64 0, .n .i64 0, .n .i64 65536, .n .i64 65536, .n .i64 0, .n .i64 0, .n .i64 71, .n .i64 71, .n .i64 0, .n .i64 0]], .v (.a [.n .i64 65536, .n .i64 65536, .n .i64 0, .n .i64 0, .n .i64 0, .n .i64 0, .n .i64 0, .n .i64 0, .n .i64 65536, .n .i64 65536, .n .i64 0, .n .i64 0, .n .i64 0, .n .i64 0, .n .i64 0, .n .i64 0, .n .i64 65536, .n .i64 65536, .n .i64 5, .n .i64 5, .n .i64 71, .n .i64 71, .n .i64 0, .n .i64 0])),
 ([.a [.n .i64 65536, .n .i64 65536, .n .i64 0, .n .i64 0, .n .i64 0, .n .i64 0, .n .i64 0, .n .i64 0, .n .i64 65536, .n .i64 65536, .n .i64 0, .n .i64 0, .n .i64 0, .n .i64 0, .n .i64 0, .n .i64 0, .n .i64 65536, .n .i64 65536, .n .i64 0, .n .i64 0, .n .i64 0, .n .i64 0, .n .i64 0, .n .i64 0], .a [.n .i64 65536, .n .i64 65536, .n .i64 0, .n .i64 0, .n .i64 0, .n .i64 0, .n .i64 0, .n .i64 0, .n .i64 65536, .n .i64 65536, .n .i64 0, .n .i64 0, .n .i64 0, .n .i64 0, .n .i64 0, .n .i64 0, .n .i64 65536, .n .i64 65536, .n .i64 0, .n .i64 0, .n .i64 301, .n .i64 301, .n .i64 0, .n .i64 0]], .v (.a [.n .i64 65536, .n .i64 65536, .n .i64 0, .n .i64 0, .n .i64 0, .n .i64 0, .n .i64 0, .n .i64 0, .n .i64 65536, .n .i64 65536, .n .i64 0, .n .i64 0, .n .i64 0, .n .i64 0, .n .i64 0, .n .i64 0, .n .i64 65536, .n .i64 65536, .n .i64 0, .n .i64 0, .n .i64 301, .n .i64 301, .n .i64 0, .n .i64 0])),
 ([.a [.n .i64 65536, .n .i64 65536, .n .i64 0, .n .i64 0, .n .i64 0, .n .i64 0, .n .i64 0, .n .i64 0, .n .i64 65536, .n .i64 65536, .n .i64 0, .n .i64 0, .n .i64 0, .n .i64 0, .n .i64 0, .n .i64 0, .n .i64 65536, .n .i64 65536, .n .i64 5, .n .i64 5, .n .i64 0, .n .i64 0, .n .i64 0, .n .i64 0], .a [.n .i64 65536, .n .i64 65536, .n .i64 0, .n .i64 0, .n .i64 0, .n .i64 0, .n .i64 0, .n .i64 0, .n .i64 65536, .n .i64 65536, .n .i64 0, .n .i64 0, .n .i64 0, .n .i64 0, .n .i64 0, .n .i64 0, .n .i64 65536, .n .i64 65536, .n .i64 0, .n .i64 0, .n .i64 301, .n .i64 301, .n .i64 0, .n .i64 0]], .v (.a [.n .i64 65536, .n .i64 65536, .n .i64 0, .n .i64 0, .n .i64 0, .n .i64 0, .n .i64 0, .n .i64 0, .n .i64 65536, .n .i64 65536, .n .i64 0, .n .i64 0, .n .i64 0, .n .i64 0, .n .i64 0, .n .i64 0, .n .i64 65536, .n .i64 65536, .n .i64 5, .n .i64 5, .n .i64 301, .n .i64 301, .n .i64 0, .n .i64 0]))]
noncomputable def t140 : Known := (140, k140) :: ([] : Known)
theorem ok140 : Known.Ok Tryz.prog t140 := Known.add yK yZ (Known.nil _) (N := 60) (by kernel_rfl)
noncomputable def k125 : List (List PV × Ret) := [([.a [.l [[.s (ByteArray.mk #[97]), .n .i64 4, .n .i64 (-1), .n .i64 0, .n .i64 0, .n .i64 0, .n .i64 0, .n .i64 640, .n .i64 1, .n .i64 65536, .n .i64 65536, .n .i64 65536], [.s (ByteArray.mk #[98]), .n .i64 5, .n .i64 0, .n .i64 0, .n .i64 0, .n .i64 0, .n .i64 0, .n .i64 640, .n .i64 1, .n .i64 65536, .n .i64 65536, .n .i64 65536]], .l []], .l [[.n .i64 5, .n .i64 5], [.n .i64 7, .n .i64 7]]], .ow 102 24 (.l [[.n .i64 65536, .n .i64 65536, .n .i64 0, .n .i64 0, .n .i64 0, .n .i64 0, .n .i64 0, .n .i64 0, .n .i64 65536, .n .i64 65536, .n .i64 0, .n .i64 0, .n .i64 0, .n .i64 0, .n .i64 0, .n .i64 0, .n .i64 65536, .n .i64 65536, .n .i64 5, .n .i64 5, .n .i64 0, .n .i64 0, .n .i64 0, .n .i64 0], [.n .i64 65536, .n .i64 65536, .n .i64 0, .n .i64 0, .n .i64 0, .n .i64 0, .n .i64 0, .n .i64 0, .n .i64 65536, .n .i64 65536, .n .i64 0, .n .i64 0, .n .i64 0, .n .i64 0, .n .i64 0, .n .i64 0, .n .i64 65536, .n .i64 65536, .n .i64 5, .n .i64 5, .n .i64 7, .n .i64 7, .n .i64 0, .n .i64 0]])),
 ([.a [.l [[.s (ByteArray.mk #[97]), .n .i64 4, .n .i64 (-1), .n .i64 0, .n .i64 0, .n .i64 0, .n .i64 0, .n .i64 640, .n .i64 1, .n .i64 65536, .n .i64 65536, .n .i64 65536], [.s (ByteArray.mk #[98]), .n .i64 5, .n .i64 0, .n .i64 0, .n .i64 0, .n .i64 0, .n .i64 0, .n .i64 640, .n .i64 1, .n .i64 65536, .n .i64 65536, .n .i64 65536]], .l []], .l [[.n .i64 0, .n .i64 0], [.n .i64 7, .n .i64 7]]], .ow 102 24 (.l [[.n .i64 65536, .n .i64 65536, .n .i64 0, .n .i64 0, .n .i64 0, .n .i64 0, .n .i64 0, .n .i64 0, .n .i64 65536, .n .i64 65536, .n .i64 0, .n .i64 0, .n .i64 0, .n .i64 0, .n .i64 0, .n .i64 0, .n .i64 65536, .n .i64 65536, .n .i64 0, .n .i64 0, .n .i64 0, .n .i64 0, .n .i64 0, .n .i64 0], [.n .i64 65536, .n .i64 65536, .n .i64 0, .n .i64 0, .n .i64 0, .n .i64 0, .n .i64 0, .n .i64 0, .n .i64 65536, .n .i64 65536, .n .i64 0, .n .i64 0, .n .i64 0, .n .i64 0, .n .i64 0, .n .i64 0, .n .i64 65536, .n .i64 65536, .n .i64 0, .n .i64 0, .n .i64 7, .n .i64 7, .n .i64 0, .n .i64 0]])),
 ([.a [.l [[.s (ByteArray.mk #[97]), .n .i64 4, .n .i64 (-1), .n .i64 0, .n .i64 0, .n .i64 0, .n .i64 0, .n .i64 640, .n .i64 1, .n .i64 65536, .n .i64 65536, .n .i64 65536], [.s (ByteArray.mk #[98]), .n .i64 5, .n .i64 0, .n .i64 0, .n .i64 0, .n .i64 0, .n .i64 0, .n .i64 640, .n .i64 1, .n .i64 65536, .n .i64 65536, .n .i64 65536]], .l []], .l [[.n .i64 69, .n .i64 69], [.n .i64 7, .n .i64 7]]], .ow 102 24 (.l [[.n .i64 65536, .n .i64 65536, .n .i64 0, .n .i64 0, .n .i64 0, .n .i64 0, .n .i64 0, .n .i64 0, .n .i64 65536, .n .i64 65536, .n .i64 0, .n .i64 0, .n .i64 0, .n .i64 0, .n .i64 0, .n .i64 0, .n .i64 65536, .n .i64 65536, .n .i64 69, .n .i64 69, .n .i64 0, .n .i64 0, .n .i64 0, .n .i64 0], [.n .i64 65536, .n .i64 65536, .n .i64 0, .n .i64 0, .n .i64 0, .n .i64 0, .n .i64 0, .n .i64 0, .n .i64 65536, .n .i64 65536, .n .i64 0, .n .i64 0, .n .i64 0, .n .i64 0, .n .i64 0, .n .i64 0, .n .i64 65536, .n .i64 65536, .n .i64 69, .n .i64 69, .n .i64 7, .n .i64 7, .n .i64 0, .n .i64 0]])),
 ([.a [.l [[.s (ByteArray.mk #[97]), .n .i64 4, .n .i64 (-1), .n .i64 0, .n .i64 0, .n .i64 0, .n .i64 0, .n .i64 640, .n .i64 1, .n .i64 65536, .n .i64 65536, .n .i64 65536], [.s (ByteArray.mk #[98]), .n .i64 5, .n .i64 0, .n .i64 0, .n .i64 0, .n .i64 0, .n .i64 0, .n .i64 640, .n .i64 1, .n .i64 65536, .n .i64 65536, .n .i64 65536]], .l []], .l [[.n .i64 5, .n .i64 5], [.n .i64 0, .n .i64 0]]], .ow 102 24 (.l [[.n .i64 65536, .n .i64 65536, .n .i64 0, .n .i64 0, .n .i64 0, .n .i64 0, .n .i64 0, .n .i64 0, .n .i64 65536, .n .i64 65536, .n .i64 0, .n .i64 0, .n .i64 0, .n .i64 0, .n .i64 0, .n .i64 0, .n .i64 65536, .n .i64 65536, .n .i64 5, .n .i64 5, .n .i64 0, .n .i64 0, .n .i64 0, .n .i64 0], [.n .i64 65536, .n .i64 65536, .n .i64 0, .n .i64 0, .n .i64 0, .n .i64 0, .n .i64 0, .n .i64 0, .n .i64 65536, .n .i64 65536, .n .i64 0, .n .i64 0, .n .i64 0, .n .i64 0, .n .i64 0, .n .i64 0, .n .i64 65536, .n .i64 65536, .n .i64 5, .n .i64 5, .n .i64 0, .n .i64 0, .n .i64 0, .n .i64 0]])),
 ([.a [.l [[.s (ByteArray.mk #[97]), .n .i64 4, .n .i64 (-1), .n .i64 0, .n .i64 0, .n .i64 0, .n .i64 0, .n .i64 640, .n .i64 1, .n .i64 65536, .n .i64 65536, .n .i64 65536], [.s (ByteArray.mk #[98]), .n .i64 5, .n .i64 0, .n .i64 0, .n .i64 0, .n .i64 0, .n .i64 0, .n .i64 640, .n .i64 1, .n .i64 65536, .n .i64 65536, .n .i64 65536]], .l []], .l [[.n .i64 5, .n .i64 5], [.n .i64 71, .n .i64 71]]], .ow 102 24 (.l [[.n .i64 65536, .n .i64 65536, .n .i64 0, .n .i64 0, .n .i64 0, .n .i64 0, .n .i64 0, .n .i64 0, .n .i64 65536, .n .i64 65536, .n .i64 0, .n .i64 0, .n .i64 0, .n .i64 0, .n .i64 0, .n .i64 0, .n .i64 65536, .n .i64 65536, .n .i64 5, .n .i64 5, .n .i64 0, .n .i64 0, .n .i64 0, .n .i64 0], [.n .i64 65536, .n .i64 65536, .n .i64 0, .n .i64 0, .n .i64 0, .n .i64 0, .n .i64 0, .n .i64 0, .n .i64 65536, .n .i64 65536, .n .i64 0, .n .i64 0, .n .i64 0, .n .i64 0, .n .i64 0, .n .i64 0, .n .i64 65536, .n .i64 65536, .n .i64 5, .n .i64 5, .n .i64 71, .n .i64 71, .n .i64 0, .n .i64 0]])),
 ([.a [.l [[.s (ByteArray.mk #[97]), .n .i64 4, .n .i64 (-1), .n .i64 0, .n .i64 0, .n .i64 0, .n .i64 0, .n .i64 640, .n .i64 1, .n .i64 65536, .n .i64 65536, .n .i64 65536], [.s (ByteArray.mk #[98]), .n .i64 5, .n .i64 0, .n .i64 0, .n .i64 0, .n .i64 0, .n .i64 0, .n .i64 640, .n .i64 1, .n .i64 65536, .n .i64 65536, .n .i64 65536]], .l []], .l [[.n .i64 5, .n .i64 5], [.n .i64 301, .n .i64 301]]], .ow 102 24 (.l [[.n .i64 65536, .n .i64 65536, .n .i64 0, .n .i64 0, .n .i64 0, .n .i64 0, .n .i64 0, .n .i64 0, .n .i64 65536, .n .i64 65536, .n .i64 0, .n .i64 0, .n .i64 0, .n .i64 0, .n .i64 0, .n .i64 0, .n .i64 65536, .n .i64 65536, .n .i64 5, .n .i64 5, .n .i64 0, .n .i64 0, .n .i64 0, .n .i64 0], [.n .i64 65536, .n .i64 65536, .n .i64 0, .n .i64 0, .n .i64 0, .n .i64 0, .n .i64 0, .n .i64 0, .n .i64 65536, .n .i64 65536, .n .i64 0, .n .i64 0, .n .i64 0, .n .i64 0, .n .i64 0, .n .i64 0, .n .i64 65536, .n .i64 65536, .n .i64 5, .n .i64 5, .n .i64 301, .n .i64 301, .n .i64 0, .n .i64 0]]))]
noncomputable def t125 : Known := (125, k125) :: t140
theorem ok125 : Known.Ok Tryz.prog t125 := Known.add yK yZ (ok140) (N := 60) (by kernel_rfl)
noncomputable def k98 : List (List PV × Ret) := [([.a [.l [[.s (ByteArray.mk #[97]), .n .i64 4, .n .i64 (-1), .n .i64 0, .n .i64 0, .n .i64 0, .n .i64 0, .n .i64 640, .n .i64 1, .n .i64 65536, .n .i64 65536, .n .i64 65536], [.s (ByteArray.mk #[98]), .n .i64 5, .n .i64 0, .n .i64 0, .n .i64 0, .n .i64 0, .n .i64 0, .n .i64 640, .n .i64 1, .n .i64 65536, .n .i64 65536, .n .i64 65536]], .l []], .l [[.n .i64 5, .n .i64 5], [.n .i64 7, .n .i64 7]]], .v (.l [[.n .i64 65536, .n .i64 65536, .n .i64 0, .n .i64 0, .n .i64 0, .n .i64 0, .n .i64 0, .n .i64 0, .n .i64 65536, .n .i64 65536, .n .i64 0, .n .i64 0, .n .i64 0, .n .i64 0, .n .i64 0, .n .i64 0, .n .i64 65536, .n .i64 65536, .n .i64 5, .n .i64 5, .n .i64 0, .n .i64 0, .n .i64 0, .n .i64 0], [.n .i64 65536, .n .i64 65536, .n .i64 0, .n .i64 0, .n .i64 0, .n .i64 0, .n .i64 0, .n .i64 0, .n .i64 65536, .n .i64 65536, .n .i64 0, .n .i64 0, .n .i64 0, .n .i64 0, .n .i64 0, .n .i64 0, .n .i64 65536, .n .i64 65536, .n .i64 5, .n .i64 5, .n .i64 7, .n .i64 7, .n .i64 0, .n .i64 0]])),
 ([.a [.l [[.s (ByteArray.mk #[97]), .n .i64 4, .n .i64 (-1), .n .i64 0, .n .i64 0, .n .i64 0, .n .i64 0, .n .i64 640, .n .i64 1, .n .i64 65536, .n .i64 65536, .n .i64 65536], [.s (ByteArray.mk #[98]), .n .i64 5, .n .i64 0, .n .i64 0, .n .i64 0, .n .i64 0, .n .i64 0, .n .i64 640, .n .i64 1, .n .i64 65536, .n .i64 65536, .n .i64 65536]], .l []], .l [[.n .i64 0, .n .i64 0], [.n .i64 7, .n .i64 7]]], .v (.l [[.n .i64 65536, .n .i64 65536, .n .i64 0, .n .i64 0, .n .i64 0, .n .i64 0, .n .i64 0, .n .i64 0, .n .i64 65536, .n .i64 65536, .n .i64 0, .n .i64 0, .n .i64 0, .n .i64 0, .n .i64 0, .n .i64 0, .n .i64 65536, .n .i64 65536, .n .i64 0, .n .i64 0, .n .i64 0, .n .i64 0, .n .i64 0, .n .i64 0], [.n .i64 65536, .n .i64 65536, .n .i64 0, .n .i64 0, .n .i64 0, .n .i64 0, .n .i64 0, .n .i64 0, .n .i64 65536, .n .i64 65536, .n .i64 0, .n .i64 0, .n .i64 0, .n .i64 0, .n .i64 0, .n .i64 0, .n .i64 65536, .n .i64 65536, .n .i64 0, .n .i64 0, .n .i64 7, .n .i64 7, .n .i64 0, .n .i64 0]])),
 ([.a [.l [[.s (ByteArray.mk #[97]), .n .i64 4, .n .i64 (-1), .n .i64 0, .n .i64 0, .n .i64 0, .n .i64 0, .n .i64 640, .n .i64 1, .n .i64 65536, .n .i64 65536, .n .i64 65536], [.s (ByteArray.mk #[98]), .n .i64 5, .n .i64 0, .n .i64 0, .n .i64 0, .n .i64 0, .n .i64 0, .n .i64 640, .n .i64 1, .n .i64 65536, .n .i64 65536, .n .i64 65536]], .l []], .l [[.n .i64 69, .n .i64 69], [.n .i64 7, .n .i64 7]]], .v (.l [[.n .i64 65536, .n .i64 65536, .n .i64 0, .n .i64 0, .n .i64 0, .n .i64 0, .n .i64 0, .n .i64 0, .n .i64 65536, .n .i64 65536, .n .i64 0, .n .i64 0, .n .i64 0, .n .i64 0, .n .i64 0, .n .i64 0, .n .i64 65536, .n .i64 65536, .n .i64 69, .n .i64 69, .n .i64 0, .n .i64 0, .n .i64 0, .n .i64 0], [.n .i64 65536, .n .i64 65536, .n .i64 0, .n .i64 0, .n .i64 0, .n .i64 0, .n .i64 0, .n .i64 0, .n .i64 65536, .n .i64 65536, .n .i64 0, .n .i64 0, .n .i64 0, .n .i64 0, .n .i64 0, .n .i64 0, .n .i64 65536, .n .i64 65536, .n .i64 69, .n .i64 69, .n .i64 7, .n .i64 7, .n .i64 0, .n .i64 0]])),
 ([.a [.l [[.s (ByteArray.mk #[97]), .n .i64 4, .n .i64 (-1), .n .i64 0, .n .i64 0, .n .i64 0, .n .i64 0, .n .i64 640, .n .i64 1, .n .i64 65536, .n .i64 65536, .n .i64 65536], [.s (ByteArray.mk #[98]), .n .i64 5, .n .i64 0, .n .i64 0, .n .i64 0, .n .i64 0, .n .i64 0, .n .i64 640, .n .i64 1, .n .i64 65536, .n .i64 65536, .n .i64 65536]], .l []], .l [[.n .i64 5, .n .i64 5], [.n .i64 0, .n .i64 0]]], .v (.l [[.n .i64 65536, .n .i64 65536, .n .i64 0, .n .i64 0, .n .i64 0, .n .i64 0, .n .i64 0, .n .i64 0, .n .i64 65536, .n .i64 65536, .n .i64 0, .n .i64 0, .n .i64 0, .n .i64 0, .n .i64 0, .n .i64 0, .n .i64 65536, .n .i64 65536, .n .i64 5, .n .i64 5, .n .i64 0, .n .i64 0, .n .i64 0, .n .i64 0], [.n .i64 65536, .n .i64 65536, .n .i64 0, .n .i64 0, .n .i64 0, .n .i64 0, .n .i64 0, .n .i64 0, .n .i64 65536, .n .i64 65536, .n .i64 0, .n .i64 0, .n .i64 0, .n .i64 0, .n .i64 0, .n .i64 0, .n .i64 65536, .n .i64 65536, .n .i64 5, .n .i64 5, .n .i64 0, .n .i64 0, .n .i64 0, .n .i64 0]])),
 ([.a [.l [[.s (ByteArray.mk #[97]), .n .i64 4, .n .i64 (-1), .n .i64 0, .n .i64 0, .n .i64 0, .n .i64 0, .n .i64 640, .n .i64 1, .n .i64 65536, .n .i64 65536, .n .i64 65536], [.s (ByteArray.mk #[98]), .n .i64 5, .n .i64 0, .n .i64 0, .n .i64 0, .n .i64 0, .n .i64 0, .n .i64 640, .n .i64 1, .n .i64 65536, .n .i64 65536, .n .i64 65536]], .l []], .l [[.n .i64 5, .n .i64 5], [.n .i64 71, .n .i64 71]]], .v (.l [[.n .i64 65536, .n .i64 65536, .n .i64 0, .n .i64 0, .n .i64 0, .n .i64 0, .n .i64 0, .n .i64 0, .n .i64 65536, .n .i64 65536, .n .i64 0, .n .i64 0, .n .i64 0, .n .i64 0, .n .i64 0, .n .i64 0, .n .i64 65536, .n .i64 65536, .n .i64 5, .n .i64 5, .n .i64 0, .n .i64 0, .n .i64 0, .n .i64 0], [.n .i64 65536, .n .i64 65536, .n .i64 0, .n .i64 0, .n .i64 0, .n .i64 0, .n .i64 0, .n .i64 0, .n .i64 65536, .n .i64 65536, .n .i64 0, .n .i64 0, .n .i64 0, .n .i64 0, .n .i64 0, .n .i64 0, .n .i64 65536, .n .i64 65536, .n .i64 5, .n .i64 5, .n .i64 71, .n .i64 71, .n .i64 0, .n .i64 0]])),
 ([.a [.l [[.s (ByteArray.mk #[97]), .n .i64 4, .n .i64 (-1), .n .i64 0, .n .i64 0, .n .i64 0, .n .i64 0, .n .i64 640, .n .i64 1, .n .i64 65536, .n .i64 65536, .n .i64 65536], [.s (ByteArray.mk #[98]), .n .i64 5, .n .i64 0, .n .i64 0, .n .i64 0, .n .i64 0, .n .i64 0, .n .i64 640, .n .i64 1, .n .i64 65536, .n .i64 65536, .n .i64 65536]], .l []], .l [[.n .i64 5, .n .i64 5], [.n .i64 301, .n .i64 301]]], .v (.l [[.n .i64 65536, .n .i64 65536, .n .i64 0, .n .i64 0, .n .i64 0, .n .i64 0, .n .i64 0, .n .i64 0, .n .i64 65536, .n .i64 65536, .n .i64 0, .n .i64 0, .n .i64 0, .n .i64 0, .n .i64 0, .n .i64 0, .n .i64 65536, .n .i64 65536, .n .i64 5, .n .i64 5, .n .i64 0, .n .i64 0, .n .i64 0, .n .i64 0], [.n .i64 65536, .n .i64 65536, .n .i64 0, .n .i64 0, .n .i64 0, .n .i64 0, .n .i64 0, .n .i64 0, .n .i64 65536, .n .i64 65536, .n .i64 0, .n .i64 0, .n .i64 0, .n .i64 0, .n .i64 0, .n .i64 0, .n .i64 65536, .n .i64 65536, .n .i64 5, .n .i64 5, .n .i64 301, .n .i64 301, .n .i64 0, .n .i64 0]]))]
noncomputable def t98 : Known := (98, k98) :: t125
theorem ok98 : Known.Ok Tryz.prog t98 := Known.add yK yZ (ok125) (N := 60) (by kernel_rfl)
noncomputable def k70 : List (List PV × Ret) := [([.a [.l [[.s (ByteArray.mk #[97]), .n .i64 4, .n .i64 (-1), .n .i64 0, .n .i64 0, .n .i64 0, .n .i64 0, .n .i64 640, .n .i64 1, .n .i64 65536, .n .i64 65536, .n .i64 65536], [.s (ByteArray.mk #[98]), .n .i64 5, .n .i64 0, .n .i64 0, .n .i64 0, .n .i64 0, .n .i64 0, .n .i64 640, .n .i64 1, .n .i64 65536, .n .i64 65536, .n .i64 65536]], .l []], .l [[.n .i64 0, .n .i64 1, .n .i64 0, .n .i64 0, .n .i64 0, .n .i64 0, .n .i64 1, .n .i64 0, .n .i64 300, .n .i64 302]], .l [[.n .i64 5, .n .i64 5], [.n .i64 7, .n .i64 7]]], .ow 69 2 (.l [[.n .i64 7, .n .i64 7]])),
 ([.a [.l [[.s (ByteArray.mk #[97]), .n .i64 4, .n .i64 (-1), .n .i64 0, .n .i64 0, .n .i64 0, .n .i64 0, .n .i64 640, .n .i64 1, .n .i64 65536, .n .i64 65536, .n .i64 65536], [.s (ByteArray.mk #[98]), .n .i64 5, .n .i64 0, .n .i64 0, .n .i64 0, .n .i64 0, .n .i64 0, .n .i64 640, .n .i64 1, .n .i64 65536, .n .i64 65536, .n .i64 65536]], .l []], .l [[.n .i64 0, .n .i64 1, .n .i64 0, .n .i64 0, .n .i64 0, .n .i64 0, .n .i64 1, .n .i64 0, .n .i64 300, .n .i64 302]], .l [[.n .i64 0, .n .i64 0], [.n .i64 7, .n .i64 7]]], .ow 69 2 (.l [[.n .i64 7, .n .i64 7]])),
 ([.a [.l [[.s (ByteArray.mk #[97]), .n .i64 4, .n .i64 (-1), .n .i64 0, .n .i64 0, .n .i64 0, .n .i64 0, .n .i64 640, .n .i64 1, .n .i64 65536, .n .i64 65536, .n .i64 65536], [.s (ByteArray.mk #[98]), .n .i64 5, .n .i64 0, .n .i64 0, .n .i64 0, .n .i64 0, .n .i64 0, .n .i64 640, .n .i64 1, .n .i64 65536, .n .i64 65536, .n .i64 65536]], .l []], .l [[.n .i64 0, .n .i64 1, .n .i64 0, .n .i64 0, .n .i64 0, .n .i64 0, .n .i64 1, .n .i64 0, .n .i64 300, .n .i64 302]], .l [[.n .i64 69, .n .i64 69], [.n .i64 7, .n .i64 7]]], .ow 69 2 (.l [[.n .i64 7, .n .i64 7]])),
 ([.a [.l [[.s (ByteArray.mk #[97]), .n .i64 4, .n .i64 (-1), .n .i64 0, .n .i64 0, .n .i64 0, .n .i64 0, .n .i64 640, .n .i64 1, .n .i64 65536, .n .i64 65536, .n .i64 65536], [.s (ByteArray.mk #[98]), .n .i64 5, .n .i64 0, .n .i64 0, .n .i64 0, .n .i64 0, .n .i64 0, .n .i64 640, .n .i64 1, .n .i64 65536, .n .i64 65536, .n .i64 65536]], .l []], .l [[.n .i64 0, .n .i64 1, .n .i64 0, .n .i64 0, .n .i64 0, .n .i64 0, .n .i64 1, .n .i64 0, .n .i64 300, .n .i64 302]], .l [[.n .i64 5, .n .i64 5], [.n .i64 0, .n .i64 0]]], .ow 69 2 (.l [[.n .i64 0, .n .i64 0]])),
 ([.a [.l [[.s (ByteArray.mk #[97]), .n .i64 4, .n .i64 (-1), .n .i64 0, .n .i64 0, .n .i64 0, .n .i64 0, .n .i64 640, .n .i64 1, .n .i64 65536, .n .i64 65536, .n .i64 65536], [.s (ByteArray.mk #[98]), .n .i64 5, .n .i64 0, .n .i64 0, .n .i64 0, .n .i64 0, .n .i64 0, .n .i64 640, .n .i64 1, .n .i64 65536, .n .i64 65536, .n .i64 65536]], .l []], .l [[.n .i64 0, .n .i64 1, .n .i64 0, .n .i64 0, .n .i64 0, .n .i64 0, .n .i64 1, .n .i64 0, .n .i64 300, .n .i64 302]], .l [[.n .i64 5, .n .i64 5], [.n .i64 71, .n .i64 71]]], .ow 69 2 (.l [[.n .i64 71, .n .i64 71]])),
 ([.a [.l [[.s (ByteArray.mk #[97]), .n .i64 4, .n .i64 (-1), .n .i64 0, .n .i64 0, .n .i64 0, .n .i64 0, .n .i64 640, .n .i64 1, .n .i64 65536, .n .i64 65536, .n .i64 65536], [.s (ByteArray.mk #[98]), .n .i64 5, .n .i64 0, .n .i64 0, .n .i64 0, .n .i64 0, .n .i64 0, .n .i64 640, .n .i64 1, .n .i64 65536, .n .i64 65536, .n .i64 65536]], .l []], .l [[.n .i64 0, .n .i64 1, .n .i64 0, .n .i64 0, .n .i64 0, .n .i64 0, .n .i64 1, .n .i64 0, .n .i64 300, .n .i64 302]], .l [[.n .i64 5, .n .i64 5], [.n .i64 301, .n .i64 301]]], .ow 69 2 (.l [[.n .i64 301, .n .i64 301]]))]
noncomputable def t70 : Known := (70, k70) :: t98
theorem ok70 : Known.Ok Tryz.prog t70 := Known.add yK yZ (ok98) (N := 60) (by kernel_rfl)
noncomputable def k29 : List (List PV × Ret) := [([.a [.l [[.s (ByteArray.mk #[97]), .n .i64 4, .n .i64 (-1), .n .i64 0, .n .i64 0, .n .i64 0, .n .i64 0, .n .i64 640, .n .i64 1, .n .i64 65536, .n .i64 65536, .n .i64 65536], [.s (ByteArray.mk #[98]), .n .i64 5, .n .i64 0, .n .i64 0, .n .i64 0, .n .i64 0, .n .i64 0, .n .i64 640, .n .i64 1, .n .i64 65536, .n .i64 65536, .n .i64 65536]], .l []], .a [.n .i64 0, .n .i64 1, .n .i64 0, .n .i64 0, .n .i64 0, .n .i64 0, .n .i64 1, .n .i64 0, .n .i64 300, .n .i64 302], .l [[.n .i64 5], [.n .i64 7]]], .v (.t [.l [[.n .i64 5], [.n .i64 301]], .b true]))]
noncomputable def t29 : Known := (29, k29) :: t70
theorem ok29 : Known.Ok Tryz.prog t29 := Known.add yK yZ (ok70) (N := 60) (by kernel_rfl)
noncomputable def k40 : List (List PV × Ret) := [([.a [.l [[.s (ByteArray.mk #[97]), .n .i64 4, .n .i64 (-1), .n .i64 0, .n .i64 0, .n .i64 0, .n .i64 0, .n .i64 640, .n .i64 1, .n .i64 65536, .n .i64 65536, .n .i64 65536], [.s (ByteArray.mk #[98]), .n .i64 5, .n .i64 0, .n .i64 0, .n .i64 0, .n .i64 0, .n .i64 0, .n .i64 640, .n .i64 1, .n .i64 65536, .n .i64 65536, .n .i64 65536]], .l []], .l [[.n .i64 0, .n .i64 1, .n .i64 0, .n .i64 0, .n .i64 0, .n .i64 0, .n .i64 1, .n .i64 0, .n .i64 300, .n .i64 302]], .l [[.n .i64 5], [.n .i64 7]]], .v (.l [[.n .i64 5], [.n .i64 301]]))]
noncomputable def t40 : Known := (40, k40) :: t29
theorem ok40 : Known.Ok Tryz.prog t40 := Known.add yK yZ (ok29) (N := 60) (by kernel_rfl)
noncomputable def k15 : List (List PV × Ret) := [([.a [.l [[.s (ByteArray.mk #[97]), .n .i64 4, .n .i64 (-1), .n .i64 0, .n .i64 0, .n .i64 0, .n .i64 0, .n .i64 640, .n .i64 1, .n .i64 65536, .n .i64 65536, .n .i64 65536], [.s (ByteArray.mk #[98]), .n .i64 5, .n .i64 0, .n .i64 0, .n .i64 0, .n .i64 0, .n .i64 0, .n .i64 640, .n .i64 1, .n .i64 65536, .n .i64 65536, .n .i64 65536]], .l []], .l [[.n .i64 0, .n .i64 1, .n .i64 0, .n .i64 0, .n .i64 0, .n .i64 0, .n .i64 1, .n .i64 0, .n .i64 300, .n .i64 302]], .l [[.n .i64 5], [.n .i64 7]], .n .i64 9], .v (.t [.l [[.n .i64 5], [.n .i64 301]], .n .i64 1, .b true]))]
noncomputable def t15 : Known := (15, k15) :: t40
theorem ok15 : Known.Ok Tryz.prog t15 := Known.add yK yZ (ok40) (N := 60) (by kernel_rfl)
theorem call : yY Tryz.prog 7 [] (.v (.b true)) := zUW (N := 60) yK yZ (Known.ok (ok15)) (by kernel_rfl : run T (Known.orc t15) 60 7 [] = some (.v (.b true)))
end Go.Proofs.YthkhihoplfpgmaaGreat.Aw
namespace Go.Rx
open Go.RowKit Go.Sx Go.ChangeShapes Go.WideShapes
section
variable {P : Program} {W : World} {H : Type} {enc : TypeId × Value → H}
def yHQ (W : World) (v : Value) (L : List Int) : Prop := RP (fun k => k < W.heap.size) W (zXJ L) v ∧ L.length ≤ 9223372036854775807 ∧ ∀ x ∈ L, In64 x
theorem jZW {t e : TypeId} {v : Value} {d : DataW H} {p : List MemPlace} (ht : P.underlying t = some (.slice e)) (he : P.underlying e = some (.int .i64)) (hc : P.cellsOf e = 1)
  {r : Reach} {base : Nat} (hv : Value.okWide P W r base t v) (h : DataW.Trod enc P W 0 (fun _ => true) true t v d p) : ∃ L : List Int, yHQ W v L := by
 obtain ⟨a, l, c, rfl⟩ := slice_of ht hv
 obtain ⟨fuel, h⟩ := h
 have h' : DataW.trod enc P W 0 (fun _ => true) true fuel t [.slice a l c] = some (d, p) := h
 rcases open_ints ht he hc h' with ⟨h1, _⟩ | ⟨a', len, cap, zs, h1, _, hlc, hcap, hz, _, hcell, hwf⟩
 ·simp at h1
  obtain ⟨rfl, rfl, rfl⟩ := h1
  exact ⟨[], .l0 none 0, by simp, fun x hx => by cases hx⟩
 ·simp at h1
  obtain ⟨rfl, rfl, rfl⟩ := h1
  simp only [if_true] at hz
  have hlen : (zs.take l).length = l := by simp; omega
  have hI : IntsAt W W.heap.size (.slice (some a') l c) (zs.take l) := ⟨by have : maxLen = 9223372036854775807 := rfl; omega, some a', c, by rw [hlen], fun j hj => by
   rw [hlen] at hj
   have h0 := hcell 0 (by omega)
   have hj' := hcell j (by omega)
   have hsp : a'.spot = none := by
    have e : a'.add 0 = a' := by simp [Addr.add]
    rw [e] at h0
    unfold World.cell? at h0
    cases hb : W.heap[a'.block]? with
    | none => simp [hb] at h0
    | some o => cases o <;> simp [hb] at h0; exact h0.1
   obtain ⟨bb, off, sp⟩ := a'
   simp only at hsp
   subst hsp
   rw [qUX] at hj'
   refine ⟨bb, off, rfl, ?_, ?_⟩
   ·unfold World.cell? at hj'
    cases hb : W.heap[bb]? with
    | none => simp [hb] at hj'
    | some o => exact qQK hb
   ·rw [hj']
    simp [List.getD_eq_getElem?_getD, List.getElem?_take, hj]⟩
  refine ⟨zs.take l, ?_, hI.1, fun x hx => ?_⟩
  ·have := rp_of_ints (F := fun k => k < W.heap.size) (w := W) (L := zs.take l) (a := some a') (c := c) (by rw [hlen]; exact hI) (by rw [hlen]; exact hlc) fun k hk => hk
   rw [hlen] at this
   exact this
  ·have := hwf x (List.mem_of_mem_take hx)
   simpa [Lit.wf, IntKind.has, IntKind.min, IntKind.max, IntKind.signed, IntKind.bits, In64] using this
end
end Go.Rx
namespace Go.Proofs.YthkhihoplfpgmaaGreat
open Go.Rx Go.Sx Go.RowKit Nb Nd Nx
theorem wProjectSteps (v0 : Value) (js0 : Nat → J) (ms0 : Nat → Ms) (n0 m0 : Nat) (v1 : Value) (q1 : Cn) (v2 : Value) (L2 : List Int) (v3 : Value) (L3 : List Int) (v4 : Value) (L4 : List Int) (v5 : Value) (L5 : List Int) (W : World) (h0 : RP (fun k => k < W.heap.size) W (.a [.lf n0 (fJ js0), .lf m0 (fM ms0)]) v0) (h1 : RP (fun k => k < W.heap.size) W (.a (cp q1)) v1) (h2 : yHQ W v2 L2) (h3 : yHQ W v3 L3) (h4 : yHQ W v4 L4) (h5 : yHQ W v5 L5) : Calls Tryz.prog 3 #[v0, v1, v2, v3, v4, v5] W (Rets (.bool true) W) :=
 zUG (Nv.snd_law _ _ _ _ _ _ _ _ _  h2.2.1 h3.2.1 h4.2.1 h5.2.1 Aw.call) rfl (qGQ h0 (qGQ h1 (qGQ h2.1 (qGQ h3.1 (qGQ h4.1 (qGQ h5.1 jQW))))))
end Go.Proofs.YthkhihoplfpgmaaGreat

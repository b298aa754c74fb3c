/- Part 12 of the texts behind the last one: rules and contracts. No condition. -/
import Derived.Test.YtmbnpjpggccefaaGreatMD11
namespace Go.Proofs.YtmbnpjpggccefaaGreat
open Go.Sx
theorem en25 : yG Tryz.prog 25 := zZ Tryz.func25 (by kernel_rfl) (by kernel_rfl)
theorem app30 : appB Tryz.prog 30 71 2 16 = true := by kernel_rfl
theorem mkBox (lv : Value) (l : List Int) (aj am : Option Addr) (cj nm cm : Nat) (js : List J) (hn : js.length ≤ 1000) (hjs : ∀ j ∈ js, JB j) (w : World) (hl : IntsAt w w.heap.size lv l) (hS : SlcIs 12 aj (js.map jc) w) : Calls Tryz.prog 8 [.agg #[.slice aj js.length cj, .slice am nm cm], lv].toArray w (RetsF (X := Option Addr × Nat) (fun x => js.length ≤ x.2) (fun x => .slice x.1 js.length x.2) (fun x => SlcIs 2 x.1 ((bxs l js js.length).1.map ivc)) w) := by
 refine zK (n := 68) Tryz.func8 rfl rfl rfl ?_
 refine qK ?_
 refine qZ ?_
 refine jJ 2 rfl rfl rfl rfl ?_; intro b2
 refine qY (qW rfl) rfl rfl rfl ?_
 refine qJ ?_
 refine qQ ?_
 refine qK ?_
 refine qZ ?_
 refine qY (qU rfl) rfl rfl rfl ?_
 refine doL_callNew 13 en25 rfl (fun w' k => mFrom w' (intsAt_grow hl k.grow (Nat.le_refl _))) rfl rfl ?_; intro b13
 refine qY (qW rfl) rfl rfl rfl ?_
 refine qJ ?_
 refine qQ ?_
 refine qK ?_
 refine qZ ?_
 refine qY (qW rfl) rfl rfl rfl ?_
 refine qJ ?_
 refine qQ ?_
 refine qK ?_
 refine qK ?_
 refine doC_own 100 71 2 ?_
 refine qZ ?_
 refine qY (qW rfl) rfl rfl rfl ?_
 refine qJ ?_
 refine qQ ?_
 refine jX ?_
 refine doC_loopK [2, 5] [2] (α := Nat × Nat × Option Addr × Nat × List Iv) (fun x => js.length - x.1) (fun x => x.1 ≤ js.length ∧ bxs l js x.1 = (x.2.2.2.2, x.2.1) ∧ x.2.2.2.2.length = x.1) (fun x => ⟨w, [(100, ownD x.2.2.1, OwnF 0 71 2 x.2.2.1 x.2.2.2.1 x.1 (ivC x.2.2.2.2))]⟩) (fun x => [(6, .slice x.2.2.1 x.1 x.2.2.2.1), (7, .int .i64 (x.1 : Int))]) (fun x => [(13, b13, srcC lv l x.2.1, 110)]) (0, 0, none, 0, []) rfl rfl ?_ ?_ ?_ ?_ rfl ?_
 ·
  exact ⟨Nat.zero_le _, rfl, rfl⟩
 ·
  exact rfl
 ·
  repeat' first | exact trivial | exact True.intro | refine ⟨rfl, ?_⟩
 ·
  repeat' first | exact trivial | exact True.intro | refine ⟨rfl, ?_⟩
 rintro ⟨k, q, a, cap, rows⟩ ⟨hk, hsh, hlen⟩
 dsimp only at hk hsh hlen ⊢
 refine qK ?_
 refine qK ?_
 refine qZ ?_
 refine qY (qU rfl) rfl rfl rfl ?_
 refine qY (qX zQJ rfl) rfl rfl rfl ?_
 refine qY (zW 2 ty22 rfl rfl rfl) rfl rfl rfl ?_
 refine qY (opV_len_slice sl22 rfl) rfl rfl rfl ?_
 refine qY (qZJ rfl rfl) rfl rfl rfl ?_
 refine qJ ?_
 refine qQ ?_
 refine yX rfl (fun hc18 => ?_) (fun hc18 => ?_)
 ·
  have h2 : k < js.length := by have := of_decide_eq_true hc18; omega
  obtain ⟨j, hjk⟩ : ∃ j, js[k]? = some j := ⟨_, List.getElem?_eq_getElem h2⟩
  have hj : (js.map jc)[k]? = some (jc j) := by rw [List.getElem?_map, hjk]; rfl
  obtain ⟨bj1, bj2, bj3⟩ := hjs j (List.mem_of_getElem? hjk)
  refine yU ?_
  refine qQ ?_
  refine qK ?_
  refine jX ?_
  refine qK ?_
  refine doC_all mo (by kernel_rfl) ?_
  refine zH (qX zQJ rfl) rfl rfl rfl ?_
  refine zH (zW 2 ty22 rfl rfl rfl) rfl rfl rfl ?_
  refine zH (qU rfl) rfl rfl rfl ?_
  refine zH (qYY (e := 70) (uX hS) (by kernel_rfl) rfl rfl rfl hj h2) rfl rfl rfl ?_
  refine zH (opV_fieldS (uX hS) hj qHX rfl) rfl rfl rfl ?_
  refine zH (opV_loadS1 k 6 (uX hS) hj ty2 rfl rfl) rfl rfl rfl ?_
  refine zH (qX zQJ rfl) rfl rfl rfl ?_
  refine zH (zW 2 ty22 rfl rfl rfl) rfl rfl rfl ?_
  refine zH (qU rfl) rfl rfl rfl ?_
  refine zH (qYY (e := 70) (uX hS) (by kernel_rfl) rfl rfl rfl hj h2) rfl rfl rfl ?_
  refine zH (opV_fieldS (uX hS) hj qHU rfl) rfl rfl rfl ?_
  refine zH (opV_loadS1 k 7 (uX hS) hj ty2 rfl rfl) rfl rfl rfl ?_
  refine zH (qW rfl) rfl rfl rfl ?_
  refine zH (qW rfl) rfl rfl rfl ?_
  refine uU ?_
  refine qQ ?_
  refine qK ?_
  refine qZ ?_
  refine qY (qU rfl) rfl rfl rfl ?_
  refine qY (qU rfl) rfl rfl rfl ?_
  refine qY (qU rfl) rfl rfl rfl ?_
  refine qY (qU rfl) rfl rfl rfl ?_
  refine qY (qZQ rfl rfl (by first | exact zX ⟨by omega, by omega⟩ | rfl)) rfl rfl rfl ?_
  refine qY (jU rfl rfl (by first | exact zX ⟨by omega, by omega⟩ | rfl)) rfl rfl rfl ?_
  refine qGG (F := vI) 13 hl rfl en27 rfl (fun w' h => kZ _ (by first | omega | assumption | (unfold In64; omega) | decide) w' h) rfl rfl rfl ?_; intro r39 hr39
  have br39 := uJ hr39 (by first | decide | omega)
  refine qY (jU rfl rfl (by first | exact zX ⟨by omega, by omega⟩ | rfl)) rfl rfl rfl ?_
  refine qY (qW rfl) rfl rfl rfl ?_
  refine qJ ?_
  refine qQ ?_
  refine qK ?_
  refine qZ ?_
  refine qY (qW rfl) rfl rfl rfl ?_
  refine qJ ?_
  refine qQ ?_
  refine qK ?_
  refine qK ?_
  refine qZ ?_
  refine qY (qU rfl) rfl rfl rfl ?_
  refine qGG (F := vI) 13 hl rfl en27 rfl (fun w' h => kZ _ (by first | omega | assumption | (unfold In64; omega) | decide) w' h) rfl rfl rfl ?_; intro r42 hr42
  have br42 := uJ hr42 (by first | decide | omega)
  refine qJ ?_
  refine qQ ?_
  refine jX ?_
  refine qK ?_
  refine qZ ?_
  refine qY (uK rfl rfl) rfl rfl rfl ?_
  refine qY (qW rfl) rfl rfl rfl ?_
  refine qJ ?_
  refine qQ ?_
  refine yX rfl (fun hc43 => ?_) (fun hc43 => ?_)
  ·
   refine qZ ?_
   refine qY (qU rfl) rfl rfl rfl ?_
   refine qY (qU rfl) rfl rfl rfl ?_
   refine qY (qZQ rfl rfl (by first | exact zX ⟨by omega, by omega⟩ | rfl)) rfl rfl rfl ?_
   refine qY (qW rfl) rfl rfl rfl ?_
   refine qJ ?_
   refine qH ?_
   refine qQ ?_
   refine qZ ?_
   refine qY (qU rfl) rfl rfl rfl ?_
   refine qY (qU rfl) rfl rfl rfl ?_
   refine qY (qU rfl) rfl rfl rfl ?_
   refine qY (qU rfl) rfl rfl rfl ?_
   refine qY (qU rfl) rfl rfl rfl ?_
   refine qY (jU rfl rfl (by first | exact zX ⟨by omega, by omega⟩ | rfl)) rfl rfl rfl ?_
   refine qY (qJZ rfl rfl) rfl rfl rfl ?_
   refine qY (zU la71 rfl rfl) rfl rfl rfl ?_
   refine qUQ 65 sl30 ze71 rfl rfl rfl rfl rfl rfl rfl rfl ?_; intro b65
   refine qUZ (id2 := 65) 100 app30 rfl rfl rfl rfl rfl rfl rfl (by omega) (by omega) rfl rfl ?_; intro a66 c66 R66 hR66
   obtain rfl := Option.some.inj hR66
   refine qY (qW rfl) rfl rfl rfl ?_
   refine qJ ?_
   refine qH ?_
   refine qQ ?_
   refine qZ ?_
   refine qY (qU rfl) rfl rfl rfl ?_
   refine qY (jU rfl rfl (qHY (by omega))) rfl rfl rfl ?_
   refine qY (qW rfl) rfl rfl rfl ?_
   refine qJ ?_
   refine qYZ (k + 1, q + 1 + 1, a66, c66, rows ++ [⟨j.lo + r39, min j.hi (j.lo + r39 + (j.hi - j.lo))⟩]) (by refine ⟨?_, ?_, ?_⟩ <;> dsimp only; omega; exact bx_step hjk hsh hr39 (bxW_0 hr42 (of_decide_eq_true hc43)); simp [hlen]) (by show js.length - (k + 1) < js.length - k; omega) (by dsimp only; rw [ivC_snoc]; rfl) ?_ ?_ rfl
   repeat' first | exact trivial | exact True.intro | refine ⟨rfl, ?_⟩
  ·
   refine qK ?_
   refine qK ?_
   refine qZ ?_
   refine qY (uK rfl rfl) rfl rfl rfl ?_
   refine qY (qW rfl) rfl rfl rfl ?_
   refine qJ ?_
   refine qQ ?_
   refine yX rfl (fun hc48 => ?_) (fun hc48 => ?_)
   ·
    refine yU ?_
    refine qQ ?_
    refine jH rfl (hc48) ?_
    refine qZ ?_
    refine qY (qU rfl) rfl rfl rfl ?_
    refine qGG (F := vI) 13 hl rfl en27 rfl (fun w' h => kZ _ (by first | omega | assumption | (unfold In64; omega) | decide) w' h) rfl rfl rfl ?_; intro r52 hr52
    have br52 := uJ hr52 (by first | decide | omega)
    refine qY (qW rfl) rfl rfl rfl ?_
    refine qJ ?_
    refine qH ?_
    refine qQ ?_
    refine qZ ?_
    refine qY (qU rfl) rfl rfl rfl ?_
    refine qY (qU rfl) rfl rfl rfl ?_
    refine qY (qU rfl) rfl rfl rfl ?_
    refine qY (qU rfl) rfl rfl rfl ?_
    refine qY (qU rfl) rfl rfl rfl ?_
    refine qY (jU rfl rfl (by first | exact zX ⟨by omega, by omega⟩ | rfl)) rfl rfl rfl ?_
    refine qY (qJZ rfl rfl) rfl rfl rfl ?_
    refine qY (zU la71 rfl rfl) rfl rfl rfl ?_
    refine qUQ 65 sl30 ze71 rfl rfl rfl rfl rfl rfl rfl rfl ?_; intro b65
    refine qUZ (id2 := 65) 100 app30 rfl rfl rfl rfl rfl rfl rfl (by omega) (by omega) rfl rfl ?_; intro a66 c66 R66 hR66
    obtain rfl := Option.some.inj hR66
    refine qY (qW rfl) rfl rfl rfl ?_
    refine qJ ?_
    refine qH ?_
    refine qQ ?_
    refine qZ ?_
    refine qY (qU rfl) rfl rfl rfl ?_
    refine qY (jU rfl rfl (qHY (by omega))) rfl rfl rfl ?_
    refine qY (qW rfl) rfl rfl rfl ?_
    refine qJ ?_
    refine qYZ (k + 1, q + 1 + 1 + 1, a66, c66, rows ++ [⟨j.lo + r39, min j.hi (j.lo + r39 + r52)⟩]) (by refine ⟨?_, ?_, ?_⟩ <;> dsimp only; omega; exact bx_step hjk hsh hr39 (bxW_1 hr42 (.inl (of_decide_eq_true hc48)) hr52); simp [hlen]) (by show js.length - (k + 1) < js.length - k; omega) (by dsimp only; rw [ivC_snoc]; rfl) ?_ ?_ rfl
    repeat' first | exact trivial | exact True.intro | refine ⟨rfl, ?_⟩
   ·
    refine qZ ?_
    refine qY (uK rfl rfl) rfl rfl rfl ?_
    refine qY (qW rfl) rfl rfl rfl ?_
    refine qJ ?_
    refine qQ ?_
    refine yX rfl (fun hc48_2 => ?_) (fun hc48_2 => ?_)
    ·
     refine qZ ?_
     refine qY (qU rfl) rfl rfl rfl ?_
     refine qGG (F := vI) 13 hl rfl en27 rfl (fun w' h => kZ _ (by first | omega | assumption | (unfold In64; omega) | decide) w' h) rfl rfl rfl ?_; intro r52 hr52
     have br52 := uJ hr52 (by first | decide | omega)
     refine qY (qW rfl) rfl rfl rfl ?_
     refine qJ ?_
     refine qH ?_
     refine qQ ?_
     refine qZ ?_
     refine qY (qU rfl) rfl rfl rfl ?_
     refine qY (qU rfl) rfl rfl rfl ?_
     refine qY (qU rfl) rfl rfl rfl ?_
     refine qY (qU rfl) rfl rfl rfl ?_
     refine qY (qU rfl) rfl rfl rfl ?_
     refine qY (jU rfl rfl (by first | exact zX ⟨by omega, by omega⟩ | rfl)) rfl rfl rfl ?_
     refine qY (qJZ rfl rfl) rfl rfl rfl ?_
     refine qY (zU la71 rfl rfl) rfl rfl rfl ?_
     refine qUQ 65 sl30 ze71 rfl rfl rfl rfl rfl rfl rfl rfl ?_; intro b65
     refine qUZ (id2 := 65) 100 app30 rfl rfl rfl rfl rfl rfl rfl (by omega) (by omega) rfl rfl ?_; intro a66 c66 R66 hR66
     obtain rfl := Option.some.inj hR66
     refine qY (qW rfl) rfl rfl rfl ?_
     refine qJ ?_
     refine qH ?_
     refine qQ ?_
     refine qZ ?_
     refine qY (qU rfl) rfl rfl rfl ?_
     refine qY (jU rfl rfl (qHY (by omega))) rfl rfl rfl ?_
     refine qY (qW rfl) rfl rfl rfl ?_
     refine qJ ?_
     refine qYZ (k + 1, q + 1 + 1 + 1, a66, c66, rows ++ [⟨j.lo + r39, min j.hi (j.lo + r39 + r52)⟩]) (by refine ⟨?_, ?_, ?_⟩ <;> dsimp only; omega; exact bx_step hjk hsh hr39 (bxW_1 hr42 (.inr (of_decide_eq_true hc48_2)) hr52); simp [hlen]) (by show js.length - (k + 1) < js.length - k; omega) (by dsimp only; rw [ivC_snoc]; rfl) ?_ ?_ rfl
     repeat' first | exact trivial | exact True.intro | refine ⟨rfl, ?_⟩
    ·
     refine qK ?_
     refine qZ ?_
     refine qY (uK rfl rfl) rfl rfl rfl ?_
     refine qY (qW rfl) rfl rfl rfl ?_
     refine qJ ?_
     refine qQ ?_
     refine yX rfl (fun hc53 => ?_) (fun hc53 => ?_)
     ·
      refine qZ ?_
      refine qY (qU rfl) rfl rfl rfl ?_
      refine qGG (F := vI) 13 hl rfl en27 rfl (fun w' h => kZ _ (by first | omega | assumption | (unfold In64; omega) | decide) w' h) rfl rfl rfl ?_; intro r56 hr56
      have br56 := uJ hr56 (by first | decide | omega)
      refine qY (qW rfl) rfl rfl rfl ?_
      refine qJ ?_
      refine qH ?_
      refine qQ ?_
      refine qZ ?_
      refine qY (qU rfl) rfl rfl rfl ?_
      refine qY (qU rfl) rfl rfl rfl ?_
      refine qY (qU rfl) rfl rfl rfl ?_
      refine qY (qU rfl) rfl rfl rfl ?_
      refine qY (qU rfl) rfl rfl rfl ?_
      refine qY (jU rfl rfl (by first | exact zX ⟨by omega, by omega⟩ | rfl)) rfl rfl rfl ?_
      refine qY (qJZ rfl rfl) rfl rfl rfl ?_
      refine qY (zU la71 rfl rfl) rfl rfl rfl ?_
      refine qUQ 65 sl30 ze71 rfl rfl rfl rfl rfl rfl rfl rfl ?_; intro b65
      refine qUZ (id2 := 65) 100 app30 rfl rfl rfl rfl rfl rfl rfl (by omega) (by omega) rfl rfl ?_; intro a66 c66 R66 hR66
      obtain rfl := Option.some.inj hR66
      refine qY (qW rfl) rfl rfl rfl ?_
      refine qJ ?_
      refine qH ?_
      refine qQ ?_
      refine qZ ?_
      refine qY (qU rfl) rfl rfl rfl ?_
      refine qY (jU rfl rfl (qHY (by omega))) rfl rfl rfl ?_
      refine qY (qW rfl) rfl rfl rfl ?_
      refine qJ ?_
      refine qYZ (k + 1, q + 1 + 1 + 1, a66, c66, rows ++ [⟨j.lo + r39, min j.hi (j.lo + r39 + r56)⟩]) (by refine ⟨?_, ?_, ?_⟩ <;> dsimp only; omega; exact bx_step hjk hsh hr39 (bxW_3 hr42 (of_decide_eq_true hc53) hr56); simp [hlen]) (by show js.length - (k + 1) < js.length - k; omega) (by dsimp only; rw [ivC_snoc]; rfl) ?_ ?_ rfl
      repeat' first | exact trivial | exact True.intro | refine ⟨rfl, ?_⟩
     ·
      refine yU ?_
      refine qH ?_
      refine qQ ?_
      refine qZ ?_
      refine qY (qU rfl) rfl rfl rfl ?_
      refine qY (qU rfl) rfl rfl rfl ?_
      refine qY (qU rfl) rfl rfl rfl ?_
      refine qY (qU rfl) rfl rfl rfl ?_
      refine qY (qU rfl) rfl rfl rfl ?_
      refine qY (jU rfl rfl (by first | exact zX ⟨by omega, by omega⟩ | rfl)) rfl rfl rfl ?_
      refine qY (qJZ rfl rfl) rfl rfl rfl ?_
      refine qY (zU la71 rfl rfl) rfl rfl rfl ?_
      refine qUQ 65 sl30 ze71 rfl rfl rfl rfl rfl rfl rfl rfl ?_; intro b65
      refine qUZ (id2 := 65) 100 app30 rfl rfl rfl rfl rfl rfl rfl (by omega) (by omega) rfl rfl ?_; intro a66 c66 R66 hR66
      obtain rfl := Option.some.inj hR66
      refine qY (qW rfl) rfl rfl rfl ?_
      refine qJ ?_
      refine qH ?_
      refine qQ ?_
      refine qZ ?_
      refine qY (qU rfl) rfl rfl rfl ?_
      refine qY (jU rfl rfl (qHY (by omega))) rfl rfl rfl ?_
      refine qY (qW rfl) rfl rfl rfl ?_
      refine qJ ?_
      refine qYZ (k + 1, q + 1 + 1, a66, c66, rows ++ [⟨j.lo + r39, min j.hi (j.lo + r39 + 0)⟩]) (by refine ⟨?_, ?_, ?_⟩ <;> dsimp only; omega; exact bx_step hjk hsh hr39 (bxW_4 hr42 (of_decide_eq_false hc43) (of_decide_eq_false hc48) (of_decide_eq_false hc48_2) (of_decide_eq_false hc53)); simp [hlen]) (by show js.length - (k + 1) < js.length - k; omega) (by dsimp only; rw [ivC_snoc]; rfl) ?_ ?_ rfl
      repeat' first | exact trivial | exact True.intro | refine ⟨rfl, ?_⟩
 ·
  obtain rfl : k = js.length := by have := of_decide_eq_false hc18; omega
  refine qWH ?_
  refine jW ?_
  refine jW ?_
  refine uG ?_
  refine qQ ?_
  refine qK ?_
  refine qZ ?_
  refine qY (qU rfl) rfl rfl rfl ?_
  refine qY (qW rfl) rfl rfl rfl ?_
  refine qJ ?_
  refine qQ ?_
  refine zV ?_
  refine qJQ (rs := [.tmp 4]) rfl (resC (yH rfl) (resN)) rfl ?_
  intro w2 k2
  obtain ⟨_, q2, q3⟩ := k2.facts _ List.mem_cons_self
  exact ⟨(a, cap), own_capK q3, rfl, k2.grow, ownD a, slc_dep _ _ _, fun z hz => ⟨(q2 z hz).1, (q2 z hz).2.1⟩, by dsimp only; rw [hsh]; exact iv_slc hlen q3⟩
end Go.Proofs.YtmbnpjpggccefaaGreat
namespace Go.Proofs.YtmbnpjpggccefaaGreat
open Go.Sx Go.RowKit
theorem bxs_length {l : List Int} {js : List J} : ∀ k, k ≤ js.length → (bxs l js k).1.length = k
 | 0, _ => rfl
 | k + 1, h => by
  have hk : js[k]? = some js[k] := List.getElem?_eq_getElem (by omega)
  have h2 := bxs_length (l := l) (js := js) k (by omega)
  simp only [bxs, hk, List.length_append, List.length_singleton, h2]
theorem madeBox {lv : Value} {l l2 : List Int} {aj am : Option Addr} {cj nm cm : Nat} (w : World) (hl : IntsAt w w.heap.size lv l2) (hS : SlcIs 12 aj ((jsOf l 0 (nJ l 0)).1.map jc) w) :
  Calls Tryz.prog 8 [.agg #[.slice aj (nJ l 0) cj, .slice am nm cm], lv].toArray w (RetsF (X := Option Addr × Nat) (fun x => nJ l 0 ≤ x.2) (fun x => .slice x.1 (nJ l 0) x.2) (fun x => SlcIs 2 x.1 ((bxs l2 (jsOf l 0 (nJ l 0)).1 (nJ l 0)).1.map ivc)) w) := by
 have h := mkBox lv l2 aj am cj nm cm (jsOf l 0 (nJ l 0)).1 (by rw [qVV]; have := nJ_b l 0; omega) (jsOf_b l 0 _) w hl hS
 rw [qVV] at h
 exact h
end Go.Proofs.YtmbnpjpggccefaaGreat
namespace Go.Proofs.YtmbnpjpggccefaaGreat
open Go.Sx
theorem en42 : yG Tryz.prog 42 := zZ Tryz.func42 (by kernel_rfl) (by kernel_rfl)
theorem la41 : qZW Tryz.prog 41 = some ([.int .i64 0, .int .i64 0, .int .i64 0, .int .i64 0, .int .i64 0, .int .i64 0, .int .i64 0, .int .i64 0, .int .i64 0, .int .i64 0], [(0, 1), (1, 1), (2, 3), (5, 3), (8, 1), (9, 1)]) := by kernel_rfl
theorem ze41 : qZY Tryz.prog 41 (.agg #[.int .i64 0, .int .i64 0, .int .i64 0, .int .i64 0, .int .i64 0, .int .i64 0, .int .i64 0, .int .i64 0, .int .i64 0, .int .i64 0]) := by unfold qZY; kernel_rfl
theorem ty41 : tyB Tryz.prog 41 true 10 = true := by kernel_rfl
theorem fa41_4 : qUK Tryz.prog 41 4 8 = true := by kernel_rfl
theorem fa41_5 : qUK Tryz.prog 41 5 9 = true := by kernel_rfl
theorem fa41_1 : qUK Tryz.prog 41 1 1 = true := by kernel_rfl
theorem sl37 : slcB Tryz.prog 37 41 10 = true := by kernel_rfl
theorem app37 : appB Tryz.prog 37 41 10 80 = true := by kernel_rfl
theorem quo2 {a : Int} (h : -9000000000 ≤ a ∧ a ≤ 9000000000) : IntKind.i64.wrap (a.tdiv 2) = a.tdiv 2 := zX (by
 have := tdiv_bnd (a := a) (b := 2) (by unfold In64; omega) (by decide)
 exact this)
theorem mkConsO (lv : Value) (l : List Int) (aj am : Option Addr) (cj nj nm cm n : Nat) (hn : n ≤ 1000) (hj : 1 ≤ nj ∧ nj ≤ 10) (w : World) (hl : IntsAt w w.heap.size lv l) : Calls Tryz.prog 14 [.agg #[.slice aj nj cj, .slice am nm cm], .int .i64 (n : Int), lv].toArray w (RetsF (X := Option Addr × Nat) (fun x => n ≤ x.2) (fun x => .slice x.1 n x.2) (fun x => OwnF 0 41 10 x.1 x.2 n (cnC (cnsOf nrm l nj n).1)) w) := by
 refine zK (n := 66) Tryz.func14 rfl rfl rfl ?_
 refine qK ?_
 refine qZ ?_
 refine jJ 3 rfl rfl rfl rfl ?_; intro b3
 refine qY (qW rfl) rfl rfl rfl ?_
 refine qJ ?_
 refine qQ ?_
 refine qK ?_
 refine qZ ?_
 refine qY (qU rfl) rfl rfl rfl ?_
 refine doL_callNew 11 en25 rfl (fun w' k => mFrom w' (intsAt_grow hl k.grow (Nat.le_refl _))) rfl rfl ?_; intro b11
 refine qY (qW rfl) rfl rfl rfl ?_
 refine qJ ?_
 refine qQ ?_
 refine qK ?_
 refine doC_own 100 41 10 ?_
 refine qZ ?_
 refine qY (qW rfl) rfl rfl rfl ?_
 refine qJ ?_
 refine qQ ?_
 refine qK ?_
 refine jX ?_
 refine doC_loopK [3, 7] [3] (α := Nat × Nat × Option Addr × Nat × List Cn) (fun x => n - x.1) (fun x => x.1 ≤ n ∧ cnsOf nrm l nj x.1 = (x.2.2.2.2, x.2.1) ∧ x.2.2.2.2.length = x.1) (fun x => ⟨w, [(100, ownD x.2.2.1, OwnF 0 41 10 x.2.2.1 x.2.2.2.1 x.1 (cnC x.2.2.2.2))]⟩) (fun x => [(8, .slice x.2.2.1 x.1 x.2.2.2.1), (1, .int .i64 ((n - x.1 : Nat) : Int))]) (fun x => [(11, b11, srcC lv l x.2.1, 110)]) (0, 0, none, 0, []) rfl rfl ?_ ?_ ?_ ?_ rfl ?_
 ·
  exact ⟨Nat.zero_le _, rfl, rfl⟩
 ·
  exact rfl
 ·
  repeat' first | exact trivial | exact True.intro | refine ⟨rfl, ?_⟩
 ·
  repeat' first | exact trivial | exact True.intro | refine ⟨rfl, ?_⟩
 rintro ⟨k, q, a, cap, rows⟩ ⟨hk, hsh, hlen⟩
 dsimp only at hk hsh hlen ⊢
 refine qK ?_
 refine qK ?_
 refine qZ ?_
 refine qY (qU rfl) rfl rfl rfl ?_
 refine qY (opV_gtr rfl rfl) rfl rfl rfl ?_
 refine qJ ?_
 refine qQ ?_
 refine yX rfl (fun hc13 => ?_) (fun hc13 => ?_)
 ·
  have h2 : k < n := by have := of_decide_eq_true hc13; omega
  refine yU ?_
  refine qQ ?_
  refine qK ?_
  refine jX ?_
  refine qK ?_
  refine doC_srcB 11 28 [1, 6, 8, 12, 15, 20, 22, 24] rfl mo (by kernel_rfl) ?_
  simp only [List.take_succ_cons, List.take_zero, List.drop_succ_cons, List.drop_zero]
  refine qJV (fun _ => qU rfl) rfl rfl rfl rfl ?_
  refine qVH (F := vI) 11 hl rfl en27 rfl (fun w' h => kZ _ (by first | omega | assumption | (unfold In64; omega) | decide) w' h) rfl rfl rfl ?_; intro r17 hr17
  have br17 := uJ hr17 (by first | decide | omega)
  refine qJV (fun _ => qU rfl) rfl rfl rfl rfl ?_
  refine qJV (fun _ => qX zQJ rfl) rfl rfl rfl rfl ?_
  refine qJV (fun _ => zW 3 ty22 rfl rfl rfl) rfl rfl rfl rfl ?_
  refine qJV (fun _ => opV_len_slice sl22 rfl) rfl rfl rfl rfl ?_
  refine qVH (F := vI) 11 hl rfl en27 rfl (fun w' h => kZ _ (by omega) w' h) rfl rfl rfl ?_; intro r22 hr22
  have br22 := uJ hr22 (by first | decide | omega)
  refine qJV (fun _ => qU rfl) rfl rfl rfl rfl ?_
  refine qVH (F := vI) 11 hl rfl en29 rfl (fun w' h => qXZ _ (by first | omega | assumption | (unfold In64; omega) | decide) w' h) rfl rfl rfl ?_; intro r24 hr24
  have br24 := zQK hr24 (by first | decide | omega)
  refine qJV (fun _ => kU rfl rfl (by first | exact zX ⟨by omega, by omega⟩ | rfl)) rfl rfl rfl rfl ?_
  refine qJV (fun _ => qWZ rfl rfl (by first | decide | omega) (quo2 (by omega))) rfl rfl rfl rfl ?_
  refine qJV (fun _ => qU rfl) rfl rfl rfl rfl ?_
  refine qVH (F := vI) 11 hl rfl en29 rfl (fun w' h => qXZ _ (by first | omega | assumption | (unfold In64; omega) | decide) w' h) rfl rfl rfl ?_; intro r28 hr28
  have br28 := zQK hr28 (by first | decide | omega)
  refine qJV (fun _ => kU rfl rfl (by first | exact zX ⟨by omega, by omega⟩ | rfl)) rfl rfl rfl rfl ?_
  refine qJV (fun _ => qU rfl) rfl rfl rfl rfl ?_
  refine qVH (F := vI) 11 hl rfl en29 rfl (fun w' h => qXZ _ (by first | omega | assumption | (unfold In64; omega) | decide) w' h) rfl rfl rfl ?_; intro r31 hr31
  have br31 := zQK hr31 (by first | decide | omega)
  refine qJV (fun _ => kU rfl rfl (by first | exact zX ⟨by omega, by omega⟩ | rfl)) rfl rfl rfl rfl ?_
  refine qJV (fun _ => qWZ rfl rfl (by first | decide | omega) (quo2 (by omega))) rfl rfl rfl rfl ?_
  refine qJV (fun _ => zU la39 rfl rfl) rfl rfl rfl rfl ?_
  refine qJV (fun _ => qU rfl) rfl rfl rfl rfl ?_
  refine qVH (F := vI) 11 hl rfl en27 rfl (fun w' h => kZ _ (by first | omega | assumption | (unfold In64; omega) | decide) w' h) rfl rfl rfl ?_; intro r36 hr36
  have br36 := uJ hr36 (by first | decide | omega)
  refine qJV (fun _ => qU rfl) rfl rfl rfl rfl ?_
  refine qVH (F := vI) 11 hl rfl en27 rfl (fun w' h => kZ _ (by first | omega | assumption | (unfold In64; omega) | decide) w' h) rfl rfl rfl ?_; intro r38 hr38
  have br38 := uJ hr38 (by first | decide | omega)
  refine qJV (fun _ => qU rfl) rfl rfl rfl rfl ?_
  refine qVH (F := vI) 11 hl rfl en27 rfl (fun w' h => kZ _ (by first | omega | assumption | (unfold In64; omega) | decide) w' h) rfl rfl rfl ?_; intro r40 hr40
  have br40 := uJ hr40 (by first | decide | omega)
  refine doM_vg (F := z3) (fun _ => zY en42 rfl (fun w _ => mNormal2 _ _ _  w)) rfl rfl rfl rfl ?_; intro r41 hr41
  refine qJV (fun _ => zU la41 rfl rfl) rfl rfl rfl rfl ?_
  refine doM_alloc (famB (id := 11) rfl) ze41 rfl rfl rfl rfl rfl ?_
  refine doM_nil ?_
  refine tail_heap rfl ?_
  refine tail_alloc 9 rfl ?_; intro b9_2
  refine kJ ?_
  refine qG 9 ty41 rfl rfl rfl rfl rfl rfl rfl rfl ?_
  refine qJ ?_
  refine qQ ?_
  refine qK ?_
  refine qZ ?_
  refine qY (qU rfl) rfl rfl rfl ?_
  refine qGG (F := vI) 11 hl rfl en29 rfl (fun w' h => qXZ _ (by first | omega | assumption | (unfold In64; omega) | decide) w' h) rfl rfl rfl ?_; intro r44 hr44
  have br44 := zQK hr44 (by first | decide | omega)
  refine qY (kU rfl rfl (by first | exact zX ⟨by omega, by omega⟩ | rfl)) rfl rfl rfl ?_
  refine qY (qX fa41_4 rfl) rfl rfl rfl ?_
  refine qG 9 ty2 rfl rfl rfl rfl rfl rfl rfl rfl ?_
  refine qJ ?_
  refine qQ ?_
  refine qK ?_
  refine doC_srcB 11 6 [3] rfl mo (by kernel_rfl) ?_
  simp only [List.take_succ_cons, List.take_zero, List.drop_succ_cons, List.drop_zero]
  refine qJV (fun _ => qX fa41_4 rfl) rfl rfl rfl rfl ?_
  refine qJV (fun _ => zW 9 ty2 rfl rfl rfl) rfl rfl rfl rfl ?_
  refine qJV (fun _ => qU rfl) rfl rfl rfl rfl ?_
  refine qVH (F := vI) 11 hl rfl en27 rfl (fun w' h => kZ _ (by first | omega | assumption | (unfold In64; omega) | decide) w' h) rfl rfl rfl ?_; intro r50 hr50
  have br50 := uJ hr50 (by first | decide | omega)
  refine qJV (fun _ => kU rfl rfl (by first | exact zX ⟨by omega, by omega⟩ | rfl)) rfl rfl rfl rfl ?_
  refine qJV (fun _ => jU rfl rfl (by first | exact zX ⟨by omega, by omega⟩ | rfl)) rfl rfl rfl rfl ?_
  refine doM_nil ?_
  refine tail_heap rfl ?_
  refine kJ ?_
  refine qY (qX fa41_5 rfl) rfl rfl rfl ?_
  refine qG 9 ty2 rfl rfl rfl rfl rfl rfl rfl rfl ?_
  refine qJ ?_
  refine qQ ?_
  refine qK ?_
  refine qK ?_
  refine qZ ?_
  refine qY (qU rfl) rfl rfl rfl ?_
  refine qGG (F := vI) 11 hl rfl en27 rfl (fun w' h => kZ _ (by first | omega | assumption | (unfold In64; omega) | decide) w' h) rfl rfl rfl ?_; intro r55 hr55
  have br55 := uJ hr55 (by first | decide | omega)
  refine qY (uK rfl rfl) rfl rfl rfl ?_
  refine qJ ?_
  refine qQ ?_
  refine yX rfl (fun hc56 => ?_) (fun hc56 => ?_)
  ·
   refine qZ ?_
   refine qY (qU rfl) rfl rfl rfl ?_
   refine qGG (F := vI) 11 hl rfl en27 rfl (fun w' h => kZ _ (by first | omega | assumption | (unfold In64; omega) | decide) w' h) rfl rfl rfl ?_; intro r58 hr58
   have br58 := uJ hr58 (by first | decide | omega)
   refine qY (qZQ rfl rfl (by first | exact zX ⟨by omega, by omega⟩ | rfl)) rfl rfl rfl ?_
   refine qY (qX fa41_1 rfl) rfl rfl rfl ?_
   refine qG 9 ty3 rfl rfl rfl rfl rfl rfl rfl rfl ?_
   refine qJ ?_
   refine qQ ?_
   refine qZ ?_
   refine qY (qU rfl) rfl rfl rfl ?_
   refine qY (qV 9 ty41 rfl rfl rfl) rfl rfl rfl ?_
   refine qUQ 63 sl37 ze41 rfl rfl rfl rfl rfl rfl rfl rfl ?_; intro b63
   refine qUZ (id2 := 63) 100 app37 rfl rfl rfl rfl rfl rfl rfl (by omega) (by omega) rfl rfl ?_; intro a64 c64 R64 hR64
   obtain rfl := Option.some.inj hR64
   refine qY (qW rfl) rfl rfl rfl ?_
   refine qJ ?_
   refine qH ?_
   refine qQ ?_
   refine qZ ?_
   refine qY (qU rfl) rfl rfl rfl ?_
   refine qY (qZQ rfl rfl (dec_rem (by omega) h2)) rfl rfl rfl ?_
   refine qY (qW rfl) rfl rfl rfl ?_
   refine qJ ?_
   refine qYZ (k + 1, q + 12, a64, c64, rows ++ [⟨r17, r58 - 3, ⟨(r24 * 65536).tdiv 2, r28 * 65536, (r31 * 65536).tdiv 2⟩, r41, r44 * 65536, r44 * 65536 + r50 * 65536⟩]) (by refine ⟨?_, ?_, ?_⟩ <;> dsimp only; omega; exact cns_t hsh hr17 hr24 hr28 hr31 hr36 hr38 hr40 hr41 hr44 hr50 hr55 (of_decide_eq_true hc56) hr58; simp [hlen]) (by show n - (k + 1) < n - k; omega) (by dsimp only; rw [cnC_snoc]; rfl) ?_ ?_ rfl
   repeat' first | exact trivial | exact True.intro | refine ⟨rfl, ?_⟩
  ·
   refine yU ?_
   refine qQ ?_
   refine qZ ?_
   refine qY (qU rfl) rfl rfl rfl ?_
   refine qY (qV 9 ty41 rfl rfl rfl) rfl rfl rfl ?_
   refine qUQ 63 sl37 ze41 rfl rfl rfl rfl rfl rfl rfl rfl ?_; intro b63
   refine qUZ (id2 := 63) 100 app37 rfl rfl rfl rfl rfl rfl rfl (by omega) (by omega) rfl rfl ?_; intro a64 c64 R64 hR64
   obtain rfl := Option.some.inj hR64
   refine qY (qW rfl) rfl rfl rfl ?_
   refine qJ ?_
   refine qH ?_
   refine qQ ?_
   refine qZ ?_
   refine qY (qU rfl) rfl rfl rfl ?_
   refine qY (qZQ rfl rfl (dec_rem (by omega) h2)) rfl rfl rfl ?_
   refine qY (qW rfl) rfl rfl rfl ?_
   refine qJ ?_
   refine qYZ (k + 1, q + 11, a64, c64, rows ++ [⟨r17, r22, ⟨(r24 * 65536).tdiv 2, r28 * 65536, (r31 * 65536).tdiv 2⟩, r41, r44 * 65536, r44 * 65536 + r50 * 65536⟩]) (by refine ⟨?_, ?_, ?_⟩ <;> dsimp only; omega; exact cns_f hsh hr17 hr22 hr24 hr28 hr31 hr36 hr38 hr40 hr41 hr44 hr50 hr55 (of_decide_eq_false hc56); simp [hlen]) (by show n - (k + 1) < n - k; omega) (by dsimp only; rw [cnC_snoc]; rfl) ?_ ?_ rfl
   repeat' first | exact trivial | exact True.intro | refine ⟨rfl, ?_⟩
 ·
  obtain rfl : k = n := by have := of_decide_eq_false hc13; omega
  refine qWH ?_
  refine jW ?_
  refine jW ?_
  refine uG ?_
  refine qQ ?_
  refine qK ?_
  refine qZ ?_
  refine qY (qU rfl) rfl rfl rfl ?_
  refine qY (qW rfl) rfl rfl rfl ?_
  refine qJ ?_
  refine qQ ?_
  refine zV ?_
  refine qJQ (rs := [.tmp 6]) rfl (resC (yH rfl) (resN)) rfl ?_
  intro w2 k2
  obtain ⟨_, q2, q3⟩ := k2.facts _ List.mem_cons_self
  exact ⟨(a, cap), own_capK q3, rfl, k2.grow, ownD a, own_dep _ _ _ _ _ _ _, fun z hz => ⟨(q2 z hz).1, (q2 z hz).2.1⟩, by dsimp only; rw [hsh]; exact q3⟩
end Go.Proofs.YtmbnpjpggccefaaGreat
namespace Go.Proofs.YtmbnpjpggccefaaGreat
open Go.Sx
theorem en26 : yG Tryz.prog 26 := zZ Tryz.func26 (by kernel_rfl) (by kernel_rfl)
theorem mkRobotT (lv : Value) (l : List Int) (w : World) (hl : IntsAt w w.heap.size lv l) : Calls Tryz.prog 13 [lv].toArray w (RetsF (X := (Option Addr × Nat) × (Option Addr × Nat)) (fun x => nJ l 0 ≤ x.1.2 ∧ nM l 0 ≤ x.2.2) (fun x => .agg #[.slice x.1.1 (nJ l 0) x.1.2, .slice x.2.1 (nM l 0) x.2.2]) (fun x w => SlcIs 12 x.1.1 ((jsOf l 0 (nJ l 0)).1.map jc) w ∧ SlcIs 5 x.2.1 ((msOf l 0 (nM l 0)).map mc) w) w) := by
 refine zK (n := 6) Tryz.func13 rfl rfl rfl ?_
 refine qK ?_
 refine qZ ?_
 refine yK 2 ze25 rfl rfl rfl ?_; intro b2
 refine qJ ?_
 refine qQ ?_
 refine qK ?_
 refine qZ ?_
 refine qY (qU rfl) rfl rfl rfl ?_
 refine doL_callNew 4 en25 rfl (fun w' k => mFrom w' (intsAt_grow hl k.grow (Nat.le_refl _))) rfl rfl ?_; intro b4
 refine doL_toldB 5 4 hl rfl en26 rfl (fun w' h => mkRobot   w' h) rfl rfl rfl ?_; intro x5 Dx5 _
 rename_i hP5
 obtain ⟨⟨aj, cj⟩, am, cm⟩ := x5
 dsimp only
 refine qG 2 ty25 rfl rfl rfl rfl rfl rfl rfl rfl ?_
 refine qJ ?_
 refine qQ ?_
 refine zV ?_
 refine qJQ (rs := [.cell 2 25]) rfl (resC (zJ 2 rfl rfl ty25 rfl) (resN)) rfl ?_
 intro w2 k2
 obtain ⟨p1, p2, p3⟩ := k2.facts _ List.mem_cons_self
 exact ⟨((aj, cj), (am, cm)), hP5, rfl, k2.grow, _, p1, fun z hz => ⟨(p2 z hz).1, (p2 z hz).2.1⟩, p3⟩
end Go.Proofs.YtmbnpjpggccefaaGreat
namespace Go.Proofs.YtmbnpjpggccefaaGreat
open Go.Rx Rt Go.Sx Go.RowKit
def jp (j : J) : List PV := [.s j.name, .n .i64 j.kind, .n .i64 j.parent, .n .i64 j.off.x, .n .i64 j.off.y, .n .i64 j.off.z, .n .i64 j.lo, .n .i64 j.hi, .n .i64 j.weight, .n .i64 j.speed, .n .i64 j.accel, .n .i64 j.torque]
def mp (m : Ms) : List PV := [.n .i64 m.link, .n .i64 m.mass, .n .i64 m.p.x, .n .i64 m.p.y, .n .i64 m.p.z]
def cp (c : Cn) : List PV := [.n .i64 c.kind, .n .i64 c.link, .n .i64 c.p.x, .n .i64 c.p.y, .n .i64 c.p.z, .n .i64 c.n.x, .n .i64 c.n.y, .n .i64 c.n.z, .n .i64 c.lo, .n .i64 c.hi]
theorem valRows_map {α : Type} {f : α → List PV} {g : α → List Value} (h : ∀ x, (f x).map PV.val1 = g x) (l : List α) : qUX (l.map f) = l.map g := by
 unfold qUX
 rw [List.map_map]
 exact List.map_congr_left fun x _ => h x
theorem flat_map {α : Type} {f : α → List PV} {sz : Nat} (h : ∀ x, (Nat.beq (f x).length sz && (f x).all PV.flat1) = true) (l : List α) : qVG sz (l.map f) = true := by
 unfold qVG
 rw [List.all_map, List.all_eq_true]
 exact fun x _ => h x
theorem rp_told {α : Type} {f : α → List PV} {g : α → List Value} {sz k c : Nat} {l : List α} {a : Option Addr} {F D : Nat → Prop} {G : World → Prop} {w : World} (hv : ∀ x, (f x).map PV.val1 = g x) (hf : ∀ x, (Nat.beq (f x).length sz && (f x).all PV.flat1) = true) (hk : l.length = k) (hc : k ≤ c) (h0 : 0 < sz)
  (hd : qVU D G) (hG : G w) (hi : ∀ w, G w → SlcIs sz a (l.map g) w) (hF : ∀ k, D k → F k) : RP F w (.l (l.map f)) (.slice a k c) := by
 have := rp_of_slc (F := F) (c := c) (flat_map hf l) (by rw [List.length_map, hk]; exact hc) (by rw [valRows_map hv]; exact hi w hG) (fun b off ha hne => hF b (dep_mem hd hG hi h0 (fun e => hne (by cases l with | nil => rfl | cons x xs => cases e)) b off ha))
 rw [List.length_map, hk] at this
 exact this
theorem slc_told {α : Type} {f : α → List PV} {g : α → List Value} {sz k : Nat} {l : List α} {F : Nat → Prop} {w : World} {v : Value} (hv : ∀ x, (f x).map PV.val1 = g x) (hf : ∀ x, (Nat.beq (f x).length sz && (f x).all PV.flat1) = true) (hk : l.length = k) (hF : ∀ k, F k → k < w.heap.size) (h : RP F w (.l (l.map f)) v) :
  ∃ a c, v = .slice a k c ∧ k ≤ c ∧ SlcIs sz a (l.map g) w := by
 obtain ⟨a, c, rfl, hc, hS, _⟩ := slc_of_rp (flat_map hf l) hF h
 rw [List.length_map, hk] at hc
 exact ⟨a, c, by rw [List.length_map, hk], hc, by rw [valRows_map hv] at hS; exact hS⟩
def robP (l : List Int) : PV := .a [.l ((jsOf l 0 (nJ l 0)).1.map jp), .l ((msOf l 0 (nM l 0)).map mp)]
theorem snd_robot {l : List Int} (hl : l.length ≤ 9223372036854775807) : SndA1 Tryz.prog 13 [intsP l] (.v (robP l)) := by
 refine snd_told (X := (Option Addr × Nat) × (Option Addr × Nat)) (Φ := fun x => nJ l 0 ≤ x.1.2 ∧ nM l 0 ≤ x.2.2) (V := fun x => .agg #[.slice x.1.1 (nJ l 0) x.1.2, .slice x.2.1 (nM l 0) x.2.2]) (G := fun x w => SlcIs 12 x.1.1 ((jsOf l 0 (nJ l 0)).1.map jc) w ∧ SlcIs 5 x.2.1 ((msOf l 0 (nM l 0)).map mc) w) (zZ Tryz.func13 (by kernel_rfl) (by kernel_rfl)) (fun w F vals hF hal => ?_) (fun x w D F hP hG hd hF => ?_)
 ·obtain ⟨v, vs, rfl, h1, h2⟩ := qYK hal
  obtain rfl := al_unnil h2
  exact mkRobotT v l w (ints_of_rp hl hF h1)
 ·have h := qWW (rp_told (f := jp) (g := jc) (sz := 12) (fun _ => rfl) (fun _ => rfl) (qVV l 0 _) hP.1 (by decide) hd hG (fun _ h => h.1) hF) (qWW (rp_told (f := mp) (g := mc) (sz := 5) (fun _ => rfl) (fun _ => rfl) (msOf_len l 0 _) hP.2 (by decide) hd hG (fun _ h => h.2) hF) al_nil)
  exact .a _ _ h.1 (fun v hv => by rcases List.mem_cons.1 hv with rfl | hv; rfl; rcases List.mem_cons.1 hv with rfl | hv; rfl; cases hv) h.2
theorem rob_open {l : List Int} {F : Nat → Prop} {w : World} {v : Value} (hF : ∀ k, F k → k < w.heap.size) (h : RP F w (robP l) v) : ∃ aj cj am cm, v = .agg #[.slice aj (nJ l 0) cj, .slice am (nM l 0) cm] ∧ SlcIs 12 aj ((jsOf l 0 (nJ l 0)).1.map jc) w ∧ SlcIs 5 am ((msOf l 0 (nM l 0)).map mc) w := by
 obtain ⟨vs, rfl, ha⟩ := rp_parts h
 obtain ⟨v1, vs, rfl, h1, ha⟩ := qYK ha
 obtain ⟨v2, vs, rfl, h2, ha⟩ := qYK ha
 obtain rfl := al_unnil ha
 obtain ⟨aj, cj, rfl, _, hj⟩ := slc_told (sz := 12) (g := jc) (fun _ => rfl) (fun _ => rfl) (qVV l 0 _) hF h1
 obtain ⟨am, cm, rfl, _, hm⟩ := slc_told (sz := 5) (g := mc) (fun _ => rfl) (fun _ => rfl) (msOf_len l 0 _) hF h2
 exact ⟨aj, cj, am, cm, rfl, hj, hm⟩
def boxOf (l m : List Int) : List Iv := (bxs m (jsOf l 0 (nJ l 0)).1 (nJ l 0)).1
def boxP (l m : List Int) : PV := .l ((boxOf l m).map ivC)
theorem boxOf_len (l m : List Int) : (boxOf l m).length = nJ l 0   := bxs_length _ (by rw [qVV]; exact Nat.le_refl _)
theorem snd_box {l m : List Int} (hm : m.length ≤ 9223372036854775807) : SndA1 Tryz.prog 8 [robP l, intsP m] (.v (boxP l m)) := by
 refine snd_told (X := Option Addr × Nat) (Φ := fun x => nJ l 0 ≤ x.2) (V := fun x => .slice x.1 (nJ l 0) x.2) (G := fun x => SlcIs 2 x.1 ((boxOf l m).map ivc)) (zZ Tryz.func8 (by kernel_rfl) (by kernel_rfl)) (fun w F vals hF hal => ?_) (fun x w D F hP hG hd hF => rp_told (g := ivc) (sz := 2) (fun _ => rfl) (fun _ => rfl) (boxOf_len l m) hP (by decide) hd hG (fun _ h => h) hF)
 obtain ⟨v1, vs, rfl, h1, hal⟩ := qYK hal
 obtain ⟨v2, vs, rfl, h2, hal⟩ := qYK hal
 obtain rfl := al_unnil hal
 obtain ⟨aj, cj, am, cm, rfl, hj, hm'⟩ := rob_open hF h1
 exact madeBox w (ints_of_rp hm hF h2) hj
noncomputable def consOf (l m : List Int) (n : Nat) : List Cn := (cnsOf nrm m (nJ l 0) n).1
theorem snd_cons {l m : List Int} {n : Nat} (hn : n ≤ 1000) (hm : m.length ≤ 9223372036854775807) : SndA1 Tryz.prog 14 [robP l, .n .i64 n, intsP m] (.v (.l ((consOf l m n).map cp))) := by
 refine snd_told (X := Option Addr × Nat) (Φ := fun x => n ≤ x.2) (V := fun x => .slice x.1 n x.2) (G := fun x => SlcIs 10 x.1 ((consOf l m n).map cnc)) (zZ Tryz.func14 (by kernel_rfl) (by kernel_rfl)) (fun w F vals hF hal => ?_) (fun x w D F hP hG hd hF => rp_told (g := cnc) (sz := 10) (fun _ => rfl) (fun _ => rfl) (cnsOf_len _ _ _ _) hP (by decide) hd hG (fun _ h => h) hF)
 obtain ⟨v1, vs, rfl, h1, hal⟩ := qYK hal
 obtain ⟨v2, vs, rfl, h2, hal⟩ := qYK hal
 obtain ⟨v3, vs, rfl, h3, hal⟩ := qYK hal
 obtain rfl := al_unnil hal
 obtain ⟨aj, cj, am, cm, rfl, hj, hm'⟩ := rob_open hF h1
 obtain rfl : v2 = .int .i64 (n : Int) := by cases h2; rfl
 have hb := nJ_b l 0
 exact (mkConsO v3 m aj am cj (nJ l 0) (nM l 0) cm n hn (by omega) w (ints_of_rp hm hF h3)).mono fun _ _ h => rets_ownslc (fun _ _ _ h => cn_slc (cnsOf_len _ _ _ _) h) h
theorem lks_len {js : List J} {bx : List Iv} : ∀ k, k ≤ js.length → k ≤ bx.length → (lks js bx k).length = k
 | 0, _, _ => rfl
 | k + 1, h1, h2 => by
  have e1 : js[k]? = some (js[k]'(by omega)) := List.getElem?_eq_getElem (by omega)
  have e2 : bx[k]? = some (bx[k]'(by omega)) := List.getElem?_eq_getElem (by omega)
  simp only [lks, e1, e2, List.length_append, List.length_cons, List.length_nil]
  rw [lks_len k (by omega) (by omega)]
end Go.Proofs.YtmbnpjpggccefaaGreat
namespace Go.Proofs.YtmbnpjpggccefaaGreat.Ov
open Go.Rx Rt Go.Sx Go.RowKit
open Od
noncomputable def gEq (a b : PV) : Bool := @decide (a = b) (Classical.propDecidable _)
theorem gEq_self (a : PV) : gEq a a = true := @decide_eq_true _ (Classical.propDecidable _) rfl
theorem zQZ {a b : PV} (h : gEq a b = true) : a = b := @of_decide_eq_true _ (Classical.propDecidable _) h
def F_b : Bool → Option (Ret × Mem) := fun v => some (.v (.b v), [])
end Go.Proofs.YtmbnpjpggccefaaGreat.Ov
namespace Go.Proofs.YtmbnpjpggccefaaGreat.Ow
open Go.Rx Rt Go.Sx Go.RowKit
open Ov
theorem l1 {α : Type} {l : List α} (h : l.length = 1) : ∃ a, l = [a] := by match l, h with | [a], _ => exact ⟨a, rfl⟩
theorem l2 {α : Type} {l : List α} (h : l.length = 2) : ∃ a b, l = [a, b] := by match l, h with | [a, b], _ => exact ⟨a, b, rfl⟩
theorem l3 {α : Type} {l : List α} (h : l.length = 3) : ∃ a b c, l = [a, b, c] := by match l, h with | [a, b, c], _ => exact ⟨a, b, c, rfl⟩
end Go.Proofs.YtmbnpjpggccefaaGreat.Ow
namespace Go.Rx
open Go.RowKit Go.Sx
abbrev Cont := Ex → St → Option (Ret × Mem)
abbrev LoopS := St → Cont → Option (Ret × Mem)
def zZY : Nat → Code → Code
 | 0, .seq x _ => x
 | _ + 1, .seq _ y => y
 | 0, .cond _ x _ => x
 | _ + 1, .cond _ _ y => y
 | _, .block _ x => x
 | _, .scope x => x
 | _, .loop x => x
 | _, c => c
def zQH (B : Code) : List Nat → Code
 | [] => B
 | i :: p => zZY i (zQH B p)
def pathEq : List Nat → List Nat → Bool
 | [], [] => true
 | x :: xs, y :: ys => Nat.beq x y && pathEq xs ys
 | _, _ => false
theorem pathEq_eq : ∀ {p q : List Nat}, pathEq p q = true → p = q
 | [], [], _ => rfl
 | x :: xs, y :: ys, h => by
  simp only [pathEq, Bool.and_eq_true] at h
  rw [Nat.eq_of_beq_eq_true h.1, pathEq_eq h.2]
 | [], _ :: _, h => by cases h
 | _ :: _, [], h => by cases h
def LF (N : Nat) (C : Cx) (cK : CallK) (x : Code) (h : Hint) (K : Cont) : Nat → St → Option (Ret × Mem)
 | 0, _ => none
 | n + 1, σ => runCK N C cK x (fun e τ => match e with
   | .normal => LF N C cK x h K n (prune h τ)
   | e => K e (qXG h τ)) σ
def LoopOk (N : Nat) (C : Cx) (cK : CallK) (x : Code) (S : LoopS) : Prop := ∀ K σ r, S σ K = some r → LF N C cK x (C.T.hint C.me (jY x)) K N σ = some r
theorem loopN_LF {N : Nat} {C : Cx} {cK : CallK} {x : Code} {h : Hint} {K : Cont} : ∀ (n : Nat) (σ : St), loopN (fun again σ => runCK N C cK x (fun e σ => match e with
   | .normal => again σ
   | e => K e (qXG h σ)) (prune h σ)) n σ = LF N C cK x h K n (prune h σ)
 | 0, _ => rfl
 | n + 1, σ => by
  simp only [loopN, LF]
  congr 1
  funext e τ
  cases e with
  | normal => exact loopN_LF n τ
  | _ => rfl
def runCL (N : Nat) (C : Cx) (cK : CallK) (LO : List Nat → Option LoopS) : Code → List Nat → Cont → St → Option (Ret × Mem)
 | .skip, _, K, σ => K .normal σ
 | .label _, _, K, σ => K .normal σ
 | .scope x, p, K, σ => runCL N C cK LO x (0 :: p) K σ
 | .ret, _, K, σ => K .ret σ
 | .exit id, _, K, σ => K (.exit id) σ
 | .region _ ops d, _, K, σ => bif d then runDrawK C cK ops 0 ops.toList [] (K .normal) σ else runOpsK C cK ops ops.toList (K .normal) σ
 | .seq x y, p, K, σ => runCL N C cK LO x (0 :: p) (fun e σ => match e with
   | .normal => runCL N C cK LO y (1 :: p) K σ
   | e => K e σ) σ
 | .cond c x y, p, K, σ => (opv 1 σ c).bind fun v => match v with
   | .v (.b t) => bif t then runCL N C cK LO x (0 :: p) K σ else runCL N C cK LO y (1 :: p) K σ
   | _ => none
 | .block id x, p, K, σ => runCL N C cK LO x (0 :: p) (fun e σ => match e with
   | .exit id' => bif Nat.beq id' id then K .normal σ else K (.exit id') σ
   | e => K e σ) σ
 | .loop x, p, K, σ => match LO p with
   | some S => S (prune (C.T.hint C.me (jY x)) σ) K
   | none => loopN (fun again σ => runCK N C cK x (fun e σ => match e with
     | .normal => again σ
     | e => K e (qXG (C.T.hint C.me (jY x)) σ)) (prune (C.T.hint C.me (jY x)) σ)) N σ
 | _, _, _, _ => none
section
variable {C : Cx} {cK : CallK} {r : Ret × Mem} {K0 : Ret × Mem → Option (Ret × Mem)}
theorem runCL_some {N : Nat} {LO : List Nat → Option LoopS} {B : Code} (hc : SndK C cK) (hL : ∀ p S, LO p = some S → LoopOk N C cK (zZY 0 (zQH B p)) S) : ∀ (c : Code) (p : List Nat) {K K' : Cont} (hp : zQH B p = c) (hK : ∀ e σ, K e σ = some r → Gets K0 r (K' e σ)) (σ : St), runCL N C cK LO c p K σ = some r → Gets K0 r (runC N C c K' σ)
 | .skip, p, K, K', hp, hK, σ, h => hK _ _ h
 | .label _, p, K, K', hp, hK, σ, h => hK _ _ h
 | .scope x, p, K, K', hp, hK, σ, h => runCL_some hc hL x (0 :: p) (by simp only [zQH, hp, zZY]) hK σ h
 | .ret, p, K, K', hp, hK, σ, h => hK _ _ h
 | .exit id, p, K, K', hp, hK, σ, h => hK _ _ h
 | .region id ops d, p, K, K', hp, hK, σ, h => by
  cases d with
  | true => exact runDrawK_some hc (hK .normal) _ _ _ _ h
  | false => exact runOpsK_some hc (hK .normal) _ _ h
 | .seq x y, p, K, K', hp, hK, σ, h => by
  refine runCL_some hc hL x (0 :: p) (by simp only [zQH, hp, zZY]) (fun e τ hk => ?_) σ h
  cases e with
  | normal => exact runCL_some hc hL y (1 :: p) (by simp only [zQH, hp, zZY]) hK τ hk
  | _ => exact hK _ _ hk
 | .cond c x y, p, K, K', hp, hK, σ, h => by
  simp only [runCL, Option.bind_eq_some_iff] at h
  obtain ⟨v, hv, h⟩ := h
  simp only [runC, hv, Option.bind_some]
  split at h
  ·rename_i t
   cases t with
   | true => exact runCL_some hc hL x (0 :: p) (by simp only [zQH, hp, zZY]) hK σ h
   | false => exact runCL_some hc hL y (1 :: p) (by simp only [zQH, hp, zZY]) hK σ h
  ·cases h
 | .block id x, p, K, K', hp, hK, σ, h => by
  refine runCL_some hc hL x (0 :: p) (by simp only [zQH, hp, zZY]) (fun e τ hk => ?_) σ h
  cases e with
  | exit id' =>
   simp only at hk ⊢
   cases hb : Nat.beq id' id with
   | true => rw [hb] at hk; exact hK _ _ hk
   | false => rw [hb] at hk; exact hK _ _ hk
  | _ => exact hK _ _ hk
 | .loop x, p, K, K', hp, hK, σ, h => by
  simp only [runCL] at h
  simp only [runC]
  have h' : loopN (fun again σ => runCK N C cK x (fun e σ => match e with
     | .normal => again σ
     | e => K e (qXG (C.T.hint C.me (jY x)) σ)) (prune (C.T.hint C.me (jY x)) σ)) N σ = some r := by
   cases hS : LO p with
   | none => rw [hS] at h; exact h
   | some S =>
    rw [hS] at h
    have := hL p S hS
    rw [hp] at this
    rw [loopN_LF]
    exact this K _ r h
  refine loopN_some (fun a a' ha τ hs => ?_) N σ h'
  refine qKG hc x (fun e υ hk => ?_) _ hs
  cases e with
  | normal => exact ha _ hk
  | _ => exact hK _ _ hk
 | .rangeFunc .., p, K, K', hp, hK, σ, h => by cases h
 | .goto _, p, K, K', hp, hK, σ, h => by cases h
 | .refuse _, p, K, K', hp, hK, σ, h => by cases h
end
def cxF (T : Tab) (ok : OrK) (N f n : Nat) : Cx := ⟨T, callA ok.orc (runF T ok.orc N), callB ok.orc (runF T ok.orc N), f, n⟩
def ckF (T : Tab) (ok : OrK) (N : Nat) : CallK := callAK ok (runFK T ok N)
def bodyF (T : Tab) (f : Nat) : Code := match T.fn f with
 | some fi => fi.body
 | none => .skip
def ntmF (T : Tab) (f : Nat) : Nat := match T.fn f with
 | some fi => fi.ntmps
 | none => 0
def runKL (T : Tab) (ok : OrK) (LO : List Nat → Option LoopS) (N f : Nat) (ps : List PV) : Option (Ret × Mem) := match T.fn f with
 | none => none
 | some fi => bif Nat.ble (ps.map HV.v).length fi.ntmps then runCL N (cxF T ok N f (ntmF T f)) (ckF T ok N) LO (bodyF T f) [] (fun e σ => (endK T [] fi.results e σ).bind fun r => some (r.1, [])) ⟨initS 0 (ps.map .v), []⟩ else none
theorem ckF_snd {T : Tab} {ok : OrK} {N f n : Nat} : SndK (cxF T ok N f n) (ckF T ok N) := fun g qs K' r' hk => by
 unfold ckF callAK at hk
 show ∃ x, callA ok.orc (runF T ok.orc N) g qs = some x ∧ K' x = some r'
 unfold callA
 cases ho : ok g with
 | some o =>
  rw [ho] at hk
  simp only [Option.bind_eq_some_iff] at hk
  obtain ⟨x, hx, hk⟩ := hk
  obtain ⟨h1, hk⟩ := zG hk
  exact ⟨x.2, by simp only [OrK.orc, ho, hx, Option.bind_some, h1, cond_true], hk⟩
 | none =>
  rw [ho] at hk
  obtain ⟨x, M, hx, hk⟩ := runFK_some N g qs K' r' hk
  have e : ok.orc.a g = none := by simp only [OrK.orc, ho, Option.bind_none]
  exact ⟨x, by simp only [e, hx, Option.bind_some], hk⟩
def yQ (T : Tab) (f : Nat) (p : List Nat) : Code := zZY 0 (zQH (bodyF T f) p)
theorem uZ {P : Program} {T : Tab} {ok : OrK} {LO : List Nat → Option LoopS} {N f : Nat} {ps : List PV} {r : Ret} (hT : TabOk P T) (hm : P.follows .mixedOrders = true) (hO : ok.Ok P)
  (hL : ∀ p S, LO p = some S → LoopOk N (cxF T ok N f (ntmF T f)) (ckF T ok N) (yQ T f p) S) (h : runKL T ok LO N f ps = some (r, [])) : SndA1 P f ps r := by
 refine run_sound (N := N + 1) hT hm hO.orc ?_
 unfold runKL at h
 split at h
 ·cases h
 ·rename_i fi hfi
  obtain ⟨hb, h⟩ := zG h
  obtain ⟨q, h1, h2⟩ := runCL_some (K0 := fun q => some (q.1, [])) (K' := endK T [] fi.results) (B := bodyF T f) ckF_snd hL (bodyF T f) [] rfl (fun e σ hk => by
   simp only [Option.bind_eq_some_iff] at hk
   exact hk) _ h
  cases h2
  have eb : bodyF T f = fi.body := by unfold bodyF; rw [hfi]
  have en : ntmF T f = fi.ntmps := by unfold ntmF; rw [hfi]
  rw [eb, en] at h1
  unfold run
  simp only [runF, hfi, hb, cond_true]
  unfold cxF at h1
  rw [h1]
  rfl
noncomputable def gSt (a b : St) : Bool := @decide (a = b) (Classical.propDecidable _)
theorem qZV (a : St) : gSt a a = true := @decide_eq_true _ (Classical.propDecidable _) rfl
theorem gSt_eq {a b : St} (h : gSt a b = true) : a = b := @of_decide_eq_true _ (Classical.propDecidable _) h
noncomputable def sumAt (s : St) (R : Cont → Option (Ret × Mem)) : LoopS := fun σ K => bif gSt σ s then R K else none
theorem qZX {N : Nat} {C : Cx} {cK : CallK} {x : Code} {s : St} {R : Cont → Option (Ret × Mem)} (h : ∀ K r, R K = some r → LF N C cK x (C.T.hint C.me (jY x)) K N s = some r) : LoopOk N C cK x (sumAt s R) := fun K σ r hr => by
 unfold sumAt at hr
 obtain ⟨hg, hq⟩ := zG hr
 have e := gSt_eq hg
 subst e
 exact h K r hq
def qQU (l : List (List Nat × LoopS)) (p : List Nat) : Option LoopS := match l with
 | [] => none
 | x :: xs => bif pathEq x.1 p then some x.2 else qQU xs p
theorem qQK {N : Nat} {C : Cx} {cK : CallK} {L : List Nat → Code} : ∀ {l : List (List Nat × LoopS)}, AllP (fun x : List Nat × LoopS => LoopOk N C cK (L x.1) x.2) l → ∀ p S, qQU l p = some S → LoopOk N C cK (L p) S
 | [], _, p, S, h => by cases h
 | x :: xs, hl, p, S, h => by
  simp only [qQU] at h
  cases hb : pathEq x.1 p with
  | true =>
   rw [hb] at h
   simp only [cond_true, Option.some.injEq] at h
   subst h
   have := pathEq_eq hb
   subst this
   exact hl.1
  | false =>
   rw [hb] at h
   exact qQK hl.2 p S h
end Go.Rx
namespace Go.Proofs.YtmbnpjpggccefaaGreat.Pc
open Go.Rx Rt Go.Sx Go.RowKit
open Ov Ow
def F_n : Int → Option (Ret × Mem) := fun v => some (.v (.n .i64 v), [])
def cjT {α : Type} (f : Int → α) (i : Int) (j : J) : α := (bif (decide (j.kind < 0)) then (f 803) else (bif (decide (6 < j.kind)) then (f 803) else (bif (decide (j.parent < (-1))) then (f 804) else (bif (decide (i ≤ j.parent)) then (f 804) else (bif (decide (j.off.x < (-4194304))) then (f 805) else (bif (decide (4194304 < j.off.x)) then (f 805) else (bif (decide (j.off.y < (-4194304))) then (f 805) else (bif (decide (4194304 < j.off.y)) then (f 805) else (bif (decide (j.off.z < (-4194304))) then (f 805) else (bif (decide (4194304 < j.off.z)) then (f 805) else (bif (decide (j.kind = 0)) then (bif (decide (j.hi < j.lo)) then (f 806) else (bif (decide (j.lo < 0)) then (f 806) else (bif (decide (0 < j.hi)) then (f 806) else (bif (decide (1 ≤ j.weight)) then (bif (decide (j.weight ≤ 1024)) then (bif (decide (1 ≤ j.speed)) then (bif (decide (j.speed ≤ 1048576)) then (bif (decide (1 ≤ j.accel)) then (bif (decide (j.accel ≤ 1048576)) then (bif (decide (1 ≤ j.torque)) then (bif (decide (j.torque ≤ 1099511627776)) then (f 0) else (f 807)) else (f 807)) else (f 807)) else (f 807)) else (f 807)) else (f 807)) else (f 807)) else (f 807))))) else (bif (decide (j.kind = 1)) then (bif (decide (j.hi < j.lo)) then (f 806) else (bif (decide (j.lo < (-524288))) then (f 806) else (bif (decide (524288 < j.hi)) then (f 806) else (bif (decide (1 ≤ j.weight)) then (bif (decide (j.weight ≤ 1024)) then (bif (decide (1 ≤ j.speed)) then (bif (decide (j.speed ≤ 1048576)) then (bif (decide (1 ≤ j.accel)) then (bif (decide (j.accel ≤ 1048576)) then (bif (decide (1 ≤ j.torque)) then (bif (decide (j.torque ≤ 1099511627776)) then (f 0) else (f 807)) else (f 807)) else (f 807)) else (f 807)) else (f 807)) else (f 807)) else (f 807)) else (f 807))))) else (bif (decide (j.kind = 2)) then (bif (decide (j.hi < j.lo)) then (f 806) else (bif (decide (j.lo < (-524288))) then (f 806) else (bif (decide (524288 < j.hi)) then (f 806) else (bif (decide (1 ≤ j.weight)) then (bif (decide (j.weight ≤ 1024)) then (bif (decide (1 ≤ j.speed)) then (bif (decide (j.speed ≤ 1048576)) then (bif (decide (1 ≤ j.accel)) then (bif (decide (j.accel ≤ 1048576)) then (bif (decide (1 ≤ j.torque)) then (bif (decide (j.torque ≤ 1099511627776)) then (f 0) else (f 807)) else (f 807)) else (f 807)) else (f 807)) else (f 807)) else (f 807)) else (f 807)) else (f 807))))) else (bif (decide (j.kind = 3)) then (bif (decide (j.hi < j.lo)) then (f 806) else (bif (decide (j.lo < (-524288))) then (f 806) else (bif (decide (524288 < j.hi)) then (f 806) else (bif (decide (1 ≤ j.weight)) then (bif (decide (j.weight ≤ 1024)) then (bif (decide (1 ≤ j.speed)) then (bif (decide (j.speed ≤ 1048576)) then (bif (decide (1 ≤ j.accel)) then (bif (decide (j.accel ≤ 1048576)) then (bif (decide (1 ≤ j.torque)) then (bif (decide (j.torque ≤ 1099511627776)) then (f 0) else (f 807)) else (f 807)) else (f 807)) else (f 807)) else (f 807)) else (f 807)) else (f 807)) else (f 807))))) else (bif (decide (j.hi < j.lo)) then (f 806) else (bif (decide (j.lo < (-4194304))) then (f 806) else (bif (decide (4194304 < j.hi)) then (f 806) else (bif (decide (1 ≤ j.weight)) then (bif (decide (j.weight ≤ 1024)) then (bif (decide (1 ≤ j.speed)) then (bif (decide (j.speed ≤ 1048576)) then (bif (decide (1 ≤ j.accel)) then (bif (decide (j.accel ≤ 1048576)) then (bif (decide (1 ≤ j.torque)) then (bif (decide (j.torque ≤ 1099511627776)) then (f 0) else (f 807)) else (f 807)) else (f 807)) else (f 807)) else (f 807)) else (f 807)) else (f 807)) else (f 807)))))))))))))))))))
end Go.Proofs.YtmbnpjpggccefaaGreat.Pc
namespace Go.Proofs.YtmbnpjpggccefaaGreat.Na
open Go.Rx Rt Go.Sx Go.RowKit
def okC (first : Bool) (c : Int) : Bool := (decide (97 ≤ c) && decide (c ≤ 122)) || (!first && ((decide (48 ≤ c) && decide (c ≤ 57)) || decide (c = 95)))
def allC (s : ByteArray) : Nat → Nat → Bool
 | 0, _ => true
 | k + 1, p => okC (decide ((p : Int) = 0)) (zZJ s p) && allC s k (p + 1)
def wrld : ByteArray := ByteArray.mk #[119, 111, 114, 108, 100]
def nmB (s : ByteArray) : Bool := !(decide ((s.size : Int) = 0)) && (!(decide (16 < (s.size : Int))) && (!(s.toList == wrld.toList) && allC s s.size 0))
theorem okC_high {f : Bool} {c : Int} (h : 128 ≤ c) : okC f c = false := by
 unfold okC
 rw [decide_eq_false (show ¬ c ≤ 122 by omega), decide_eq_false (show ¬ c ≤ 57 by omega), decide_eq_false (show ¬ c = 95 by omega)]
 simp
theorem byteAt_get {s : ByteArray} {p : Nat} (h : p < s.size) : zZJ s p = ((s[p]'h).toNat : Int) := by
 unfold zZJ
 rw [getElem?_pos s p h]
 rfl
def hTn (s : ByteArray) (pos : Nat) : St := ⟨[(18, .p 18 0)], [(18, .itr s pos)]⟩
def rawTn {α : Type} (first : Bool) (c : Int) (g k : α) : α := (bif (decide (97 ≤ c)) then (bif (decide (c ≤ 122)) then g else (bif first then k else (bif (decide (48 ≤ c)) then (bif (decide (c ≤ 57)) then g else (bif (!decide (c = 95)) then k else g)) else (bif (!decide (c = 95)) then k else g)))) else (bif first then k else (bif (decide (48 ≤ c)) then (bif (decide (c ≤ 57)) then g else (bif (!decide (c = 95)) then k else g)) else (bif (!decide (c = 95)) then k else g))))
theorem rawTn_eq {α : Type} (first : Bool) (c : Int) (g k : α) : rawTn first c g k = bif okC first c then g else k := by
 unfold rawTn okC
 cases first <;> cases hA : decide (97 ≤ c) <;> cases hB : decide (c ≤ 122) <;> cases hC : decide (48 ≤ c) <;> cases hD : decide (c ≤ 57) <;> cases hE : decide (c = 95) <;> first | rfl | (exfalso; simp only [decide_eq_true_eq, decide_eq_false_iff_not] at *; omega)
set_option maxRecDepth 100000 in
theorem rdTn (G : St → Option (Ret × Mem)) (K : Cont) (s : ByteArray) (pos : Nat) : runCK 60 (cxF T (OrL.k ([] : OrL)) 60 123 (ntmF T 123)) (ckF T (OrL.k ([] : OrL)) 60) (yQ T 123 [0, 1, 0, 1, 1]) (fun e τ => match e with
 | .normal => G (prune ((cxF T (OrL.k ([] : OrL)) 60 123 (ntmF T 123)).T.hint (cxF T (OrL.k ([] : OrL)) 60 123 (ntmF T 123)).me (jY (yQ T 123 [0, 1, 0, 1, 1]))) τ)
 | e => K e (qXG ((cxF T (OrL.k ([] : OrL)) 60 123 (ntmF T 123)).T.hint (cxF T (OrL.k ([] : OrL)) 60 123 (ntmF T 123)).me (jY (yQ T 123 [0, 1, 0, 1, 1]))) τ)) (hTn s pos) =
 bif (decide (pos < s.size)) then rawTn (decide ((pos : Int) = 0)) ((Utf8.decode s pos).1 : Int) (G (hTn s (pos + (Utf8.decode s pos).2))) (K .ret ⟨[(2, .v (.b false))], []⟩) else (K (.exit 0) ⟨[], []⟩) := by kernel_rfl
theorem lpTn (K : Cont) (s : ByteArray) : ∀ (k p m : Nat), p + k = s.size → k < m → LF 60 (cxF T (OrL.k ([] : OrL)) 60 123 (ntmF T 123)) (ckF T (OrL.k ([] : OrL)) 60) (yQ T 123 [0, 1, 0, 1, 1]) ((cxF T (OrL.k ([] : OrL)) 60 123 (ntmF T 123)).T.hint (cxF T (OrL.k ([] : OrL)) 60 123 (ntmF T 123)).me (jY (yQ T 123 [0, 1, 0, 1, 1]))) K m (hTn s p) = bif allC s k p then (K (.exit 0) ⟨[], []⟩) else (K .ret ⟨[(2, .v (.b false))], []⟩)
 | 0, p, m + 1, hp, hm => by
  refine (rdTn (fun σ => LF 60 (cxF T (OrL.k ([] : OrL)) 60 123 (ntmF T 123)) (ckF T (OrL.k ([] : OrL)) 60) (yQ T 123 [0, 1, 0, 1, 1]) ((cxF T (OrL.k ([] : OrL)) 60 123 (ntmF T 123)).T.hint (cxF T (OrL.k ([] : OrL)) 60 123 (ntmF T 123)).me (jY (yQ T 123 [0, 1, 0, 1, 1]))) K m σ) K s p).trans ?_
  rw [decide_eq_false (show ¬ p < s.size by omega)]
  rfl
 | k + 1, p, m + 1, hp, hm => by
  refine (rdTn (fun σ => LF 60 (cxF T (OrL.k ([] : OrL)) 60 123 (ntmF T 123)) (ckF T (OrL.k ([] : OrL)) 60) (yQ T 123 [0, 1, 0, 1, 1]) ((cxF T (OrL.k ([] : OrL)) 60 123 (ntmF T 123)).T.hint (cxF T (OrL.k ([] : OrL)) 60 123 (ntmF T 123)).me (jY (yQ T 123 [0, 1, 0, 1, 1]))) K m σ) K s p).trans ?_
  have hlt : p < s.size := by omega
  rw [decide_eq_true hlt, cond_true, rawTn_eq]
  simp only [allC]
  have hb := byteAt_get hlt
  by_cases h128 : (s[p]'hlt).toNat < 128
  ·rw [Go.decode_ascii s p hlt h128, hb]
   rw [lpTn K s k (p + 1) m (by omega) (by omega)]
   cases okC (decide ((p : Int) = 0)) ((s[p]'hlt).toNat : Int) <;> rfl
  ·have hd := (Go.decode_high s p hlt (by omega)).1
   rw [okC_high (c := ((Utf8.decode s p).1 : Int)) (by omega), okC_high (c := zZJ s p) (by omega)]
   rfl
set_option maxRecDepth 100000 in
theorem pxTn (s : ByteArray) : runKL T (OrL.k ([] : OrL)) (qQU [([0, 1, 0, 1, 1], sumAt (hTn s 0) (fun K => bif decide (16 < (s.size : Int)) then none else (bif allC s s.size 0 then (K (.exit 0) ⟨[], []⟩) else (K .ret ⟨[(2, .v (.b false))], []⟩))))]) 60 123 [.s s] =
 (bif (decide ((s.size : Int) = 0)) then some (.v (.b false), []) else (bif (decide (16 < (s.size : Int))) then some (.v (.b false), []) else (bif (s.toList == (ByteArray.mk #[119, 111, 114, 108, 100]).toList) then some (.v (.b false), []) else (bif gSt (hTn s 0) (hTn s 0) then (bif decide (16 < (s.size : Int)) then none else (bif allC s s.size 0 then some (.v (.b true), []) else some (.v (.b false), []))) else none)))) := by kernel_rfl
theorem snd_Tn (s : ByteArray) : SndA1 Tryz.prog 123 [.s s] (.v (.b (nmB s))) := by
 refine uZ (N := 60) (LO := qQU [([0, 1, 0, 1, 1], sumAt (hTn s 0) (fun K => bif decide (16 < (s.size : Int)) then none else (bif allC s s.size 0 then (K (.exit 0) ⟨[], []⟩) else (K .ret ⟨[(2, .v (.b false))], []⟩))))]) tabOk mixed (OrL.ok (l := []) trivial) (fun p S hp => ?_) ?_
 ·refine qQK (L := yQ T 123) (l := [([0, 1, 0, 1, 1], sumAt (hTn s 0) (fun K => bif decide (16 < (s.size : Int)) then none else (bif allC s s.size 0 then (K (.exit 0) ⟨[], []⟩) else (K .ret ⟨[(2, .v (.b false))], []⟩))))]) (show AllP _ [([0, 1, 0, 1, 1], sumAt (hTn s 0) (fun K => bif decide (16 < (s.size : Int)) then none else (bif allC s s.size 0 then (K (.exit 0) ⟨[], []⟩) else (K .ret ⟨[(2, .v (.b false))], []⟩))))] from ⟨qZX fun K r hr => ?_, trivial⟩) p S hp
  cases hq : decide (16 < (s.size : Int)) with
  | true => rw [hq] at hr; cases hr
  | false =>
   rw [hq] at hr
   have h16 := of_decide_eq_false hq
   exact (lpTn K s s.size 0 60 (by omega) (by omega)).trans hr
 ·refine (pxTn s).trans ?_
  rw [qZV, cond_true]
  show _ = some (Ret.v (.b (!(decide ((s.size : Int) = 0)) && (!(decide (16 < (s.size : Int))) && (!(s.toList == (ByteArray.mk #[119, 111, 114, 108, 100]).toList) && allC s s.size 0)))), [])
  cases decide ((s.size : Int) = 0) <;> cases decide (16 < (s.size : Int)) <;> cases (s.toList == (ByteArray.mk #[119, 111, 114, 108, 100]).toList) <;> cases allC s s.size 0 <;> rfl
def hRn (s : ByteArray) (i : Int) : St := ⟨[(0, .v (.s s)), (3, .v (.n .i64 i))], []⟩
def rawRn {α : Type} (b : Bool) (first : Bool) (c : Int) (g k : Option α) : Option α := (bif b then (bif (decide (97 ≤ c)) then (bif b then (bif (decide (c ≤ 122)) then g else (bif first then k else (bif b then (bif (!decide (c = 95)) then (bif b then (bif (decide (c < 48)) then k else (bif b then (bif (decide (57 < c)) then k else g) else none)) else none) else g) else none))) else none) else (bif first then k else (bif b then (bif (!decide (c = 95)) then (bif b then (bif (decide (c < 48)) then k else (bif b then (bif (decide (57 < c)) then k else g) else none)) else none) else g) else none))) else none)
theorem rawRn_eq {α : Type} (first : Bool) (c : Int) (g k : Option α) : rawRn true first c g k = bif okC first c then g else k := by
 unfold rawRn okC
 rw [show decide (c < 48) = !decide (48 ≤ c) by rw [← decide_not]; exact decide_eq_decide.2 (by omega), show decide (57 < c) = !decide (c ≤ 57) by rw [← decide_not]; exact decide_eq_decide.2 (by omega)]
 cases first <;> cases hA : decide (97 ≤ c) <;> cases hB : decide (c ≤ 122) <;> cases hC : decide (48 ≤ c) <;> cases hD : decide (c ≤ 57) <;> cases hE : decide (c = 95) <;> first | rfl | (exfalso; simp only [decide_eq_true_eq, decide_eq_false_iff_not] at *; omega)
set_option maxRecDepth 100000 in
theorem rdRn (G : St → Option (Ret × Mem)) (K : Cont) (s : ByteArray) (i : Int) : runCK 60 (cxF T (OrL.k ([] : OrL)) 60 129 (ntmF T 129)) (ckF T (OrL.k ([] : OrL)) 60) (yQ T 129 [0, 1, 0, 1, 1]) (fun e τ => match e with
 | .normal => G (prune ((cxF T (OrL.k ([] : OrL)) 60 129 (ntmF T 129)).T.hint (cxF T (OrL.k ([] : OrL)) 60 129 (ntmF T 129)).me (jY (yQ T 129 [0, 1, 0, 1, 1]))) τ)
 | e => K e (qXG ((cxF T (OrL.k ([] : OrL)) 60 129 (ntmF T 129)).T.hint (cxF T (OrL.k ([] : OrL)) 60 129 (ntmF T 129)).me (jY (yQ T 129 [0, 1, 0, 1, 1]))) τ)) (hRn s i) =
 bif (decide (i < (s.size : Int))) then rawRn (inB i s.size) (decide (i = 0)) (zZJ s i.toNat) (G (hRn s (IntKind.i64.wrap (i + 1)))) (K .ret ⟨[(2, .v (.b false))], []⟩) else (K (.exit 0) ⟨[], []⟩) := by kernel_rfl
theorem lpRn (K : Cont) (s : ByteArray) (hs : s.size ≤ 1000) : ∀ (k p m : Nat), p + k = s.size → k < m → LF 60 (cxF T (OrL.k ([] : OrL)) 60 129 (ntmF T 129)) (ckF T (OrL.k ([] : OrL)) 60) (yQ T 129 [0, 1, 0, 1, 1]) ((cxF T (OrL.k ([] : OrL)) 60 129 (ntmF T 129)).T.hint (cxF T (OrL.k ([] : OrL)) 60 129 (ntmF T 129)).me (jY (yQ T 129 [0, 1, 0, 1, 1]))) K m (hRn s p) = bif allC s k p then (K (.exit 0) ⟨[], []⟩) else (K .ret ⟨[(2, .v (.b false))], []⟩)
 | 0, p, m + 1, hp, hm => by
  refine (rdRn (fun σ => LF 60 (cxF T (OrL.k ([] : OrL)) 60 129 (ntmF T 129)) (ckF T (OrL.k ([] : OrL)) 60) (yQ T 129 [0, 1, 0, 1, 1]) ((cxF T (OrL.k ([] : OrL)) 60 129 (ntmF T 129)).T.hint (cxF T (OrL.k ([] : OrL)) 60 129 (ntmF T 129)).me (jY (yQ T 129 [0, 1, 0, 1, 1]))) K m σ) K s p).trans ?_
  rw [decide_eq_false (show ¬ (p : Int) < (s.size : Int) by omega)]
  rfl
 | k + 1, p, m + 1, hp, hm => by
  refine (rdRn (fun σ => LF 60 (cxF T (OrL.k ([] : OrL)) 60 129 (ntmF T 129)) (ckF T (OrL.k ([] : OrL)) 60) (yQ T 129 [0, 1, 0, 1, 1]) ((cxF T (OrL.k ([] : OrL)) 60 129 (ntmF T 129)).T.hint (cxF T (OrL.k ([] : OrL)) 60 129 (ntmF T 129)).me (jY (yQ T 129 [0, 1, 0, 1, 1]))) K m σ) K s p).trans ?_
  have hB : inB (p : Int) s.size = true := by unfold inB; rw [decide_eq_true (show (0 : Int) ≤ p by omega), decide_eq_true (show (p : Int).toNat < s.size by omega)]; rfl
  rw [decide_eq_true (show (p : Int) < (s.size : Int) by omega), cond_true, hB, rawRn_eq]
  simp only [allC]
  rw [show IntKind.i64.wrap ((p : Int) + 1) = ((p + 1 : Nat) : Int) by rw [zX (by omega)]; omega, lpRn K s hs k (p + 1) m (by omega) (by omega)]
  show (bif okC (decide ((p : Int) = 0)) (zZJ s (p : Int).toNat) then _ else _) = _
  rw [show (p : Int).toNat = p by omega]
  cases okC (decide ((p : Int) = 0)) (zZJ s p) <;> rfl
set_option maxRecDepth 100000 in
theorem pxRn (s : ByteArray) : runKL T (OrL.k ([] : OrL)) (qQU [([0, 1, 0, 1, 1], sumAt (hRn s 0) (fun K => bif decide (16 < (s.size : Int)) then none else (bif allC s s.size 0 then (K (.exit 0) ⟨[], []⟩) else (K .ret ⟨[(2, .v (.b false))], []⟩))))]) 60 129 [.s s] =
 (bif (decide ((s.size : Int) < 1)) then some (.v (.b false), []) else (bif (decide (16 < (s.size : Int))) then some (.v (.b false), []) else (bif (s.toList == (ByteArray.mk #[119, 111, 114, 108, 100]).toList) then some (.v (.b false), []) else (bif gSt (hRn s 0) (hRn s 0) then (bif decide (16 < (s.size : Int)) then none else (bif allC s s.size 0 then some (.v (.b true), []) else some (.v (.b false), []))) else none)))) := by kernel_rfl
theorem snd_Rn (s : ByteArray) : SndA1 Tryz.prog 129 [.s s] (.v (.b (nmB s))) := by
 refine uZ (N := 60) (LO := qQU [([0, 1, 0, 1, 1], sumAt (hRn s 0) (fun K => bif decide (16 < (s.size : Int)) then none else (bif allC s s.size 0 then (K (.exit 0) ⟨[], []⟩) else (K .ret ⟨[(2, .v (.b false))], []⟩))))]) tabOk mixed (OrL.ok (l := []) trivial) (fun p S hp => ?_) ?_
 ·refine qQK (L := yQ T 129) (l := [([0, 1, 0, 1, 1], sumAt (hRn s 0) (fun K => bif decide (16 < (s.size : Int)) then none else (bif allC s s.size 0 then (K (.exit 0) ⟨[], []⟩) else (K .ret ⟨[(2, .v (.b false))], []⟩))))]) (show AllP _ [([0, 1, 0, 1, 1], sumAt (hRn s 0) (fun K => bif decide (16 < (s.size : Int)) then none else (bif allC s s.size 0 then (K (.exit 0) ⟨[], []⟩) else (K .ret ⟨[(2, .v (.b false))], []⟩))))] from ⟨qZX fun K r hr => ?_, trivial⟩) p S hp
  cases hq : decide (16 < (s.size : Int)) with
  | true => rw [hq] at hr; cases hr
  | false =>
   rw [hq] at hr
   have h16 := of_decide_eq_false hq
   exact (lpRn K s (by omega) s.size 0 60 (by omega) (by omega)).trans hr
 ·refine (pxRn s).trans ?_
  rw [qZV, cond_true]
  rw [show decide ((s.size : Int) < 1) = decide ((s.size : Int) = 0) from decide_eq_decide.2 (by omega)]
  show _ = some (Ret.v (.b (!(decide ((s.size : Int) = 0)) && (!(decide (16 < (s.size : Int))) && (!(s.toList == (ByteArray.mk #[119, 111, 114, 108, 100]).toList) && allC s s.size 0)))), [])
  cases decide ((s.size : Int) = 0) <;> cases decide (16 < (s.size : Int)) <;> cases (s.toList == (ByteArray.mk #[119, 111, 114, 108, 100]).toList) <;> cases allC s s.size 0 <;> rfl
end Go.Proofs.YtmbnpjpggccefaaGreat.Na
namespace Go.Proofs.YtmbnpjpggccefaaGreat.Nb
open Go.Rx Rt Go.Sx Go.RowKit
open Ov Pc Na
def fJ (js : Nat → J) : Nat → List PV := fun v => jp (js v)
def fM (ms : Nat → Ms) : Nat → List PV := fun v => mp (ms v)
def fnd (js : Nat → J) (nm : ByteArray) : Nat → Nat → Int
 | 0, _ => -1
 | k + 1, p => bif ((js p).name.toList == nm.toList) then (p : Int) else fnd js nm k (p + 1)
def dup (js : Nat → J) (nm : ByteArray) : Nat → Nat → Bool
 | 0, _ => false
 | k + 1, p => ((js p).name.toList == nm.toList) || dup js nm k (p + 1)
theorem qYU {p n : Nat} (h : p < n) : inB (p : Int) n = true := by unfold inB; rw [decide_eq_true (show (0 : Int) ≤ p by omega), decide_eq_true (show (p : Int).toNat < n by omega)]; rfl
theorem qWV {p : Nat} (h : p < 1000000) : IntKind.i64.wrap ((p : Int) + 1) = ((p + 1 : Nat) : Int) := by rw [zX (by omega)]; omega
theorem toN (p : Nat) : (p : Int).toNat = p := by omega
def hF (js : Nat → J) (ms : Nat → Ms) (n m : Nat) (nm : ByteArray) (i : Int) : St := ⟨[(1, .v (.s nm)), (2, .p 2 0), (8, .v (.n .i64 (n : Int))), (9, .v (.n .i64 i))], [(2, .blk [.v (.lf n (fJ js)), .v (.lf m (fM ms))])]⟩
set_option maxRecDepth 100000 in
theorem rdF (G : St → Option (Ret × Mem)) (K : Cont) (js : Nat → J) (ms : Nat → Ms) (n m : Nat) (nm : ByteArray) (i : Int) : runCK 60 (cxF T (OrL.k ([] : OrL)) 60 124 (ntmF T 124)) (ckF T (OrL.k ([] : OrL)) 60) (yQ T 124 [0, 1, 0, 1]) (fun e τ => match e with
 | .normal => G (prune ((cxF T (OrL.k ([] : OrL)) 60 124 (ntmF T 124)).T.hint (cxF T (OrL.k ([] : OrL)) 60 124 (ntmF T 124)).me (jY (yQ T 124 [0, 1, 0, 1]))) τ)
 | e => K e (qXG ((cxF T (OrL.k ([] : OrL)) 60 124 (ntmF T 124)).T.hint (cxF T (OrL.k ([] : OrL)) 60 124 (ntmF T 124)).me (jY (yQ T 124 [0, 1, 0, 1]))) τ)) (hF js ms n m nm i) =
 (bif (decide (i < (n : Int))) then (bif (inB i n) then (bif ((js (i).toNat).name.toList == nm.toList) then (K .ret ⟨[(4, .v (.n .i64 i))], []⟩)
 else (G (hF js ms n m nm (IntKind.i64.wrap (i + 1)))))
 else none)
 else (K (.exit 0) ⟨[], []⟩)) := by kernel_rfl
theorem lpF (K : Cont) (js : Nat → J) (ms : Nat → Ms) (n m : Nat) (nm : ByteArray) (hn : n ≤ 1000) : ∀ (k p q : Nat), p + k = n → k < q → LF 60 (cxF T (OrL.k ([] : OrL)) 60 124 (ntmF T 124)) (ckF T (OrL.k ([] : OrL)) 60) (yQ T 124 [0, 1, 0, 1]) ((cxF T (OrL.k ([] : OrL)) 60 124 (ntmF T 124)).T.hint (cxF T (OrL.k ([] : OrL)) 60 124 (ntmF T 124)).me (jY (yQ T 124 [0, 1, 0, 1]))) K q (hF js ms n m nm p) = (bif decide (fnd js nm k p = -1) then K (.exit 0) ⟨[], []⟩ else K .ret ⟨[(4, .v (.n .i64 (fnd js nm k p)))], []⟩)
 | 0, p, q + 1, hp, hq => by
  refine (rdF (fun σ => LF 60 (cxF T (OrL.k ([] : OrL)) 60 124 (ntmF T 124)) (ckF T (OrL.k ([] : OrL)) 60) (yQ T 124 [0, 1, 0, 1]) ((cxF T (OrL.k ([] : OrL)) 60 124 (ntmF T 124)).T.hint (cxF T (OrL.k ([] : OrL)) 60 124 (ntmF T 124)).me (jY (yQ T 124 [0, 1, 0, 1]))) K q σ) K js ms n m nm p).trans ?_
  rw [decide_eq_false (show ¬ (p : Int) < (n : Int) by omega)]
  rfl
 | k + 1, p, q + 1, hp, hq => by
  refine (rdF (fun σ => LF 60 (cxF T (OrL.k ([] : OrL)) 60 124 (ntmF T 124)) (ckF T (OrL.k ([] : OrL)) 60) (yQ T 124 [0, 1, 0, 1]) ((cxF T (OrL.k ([] : OrL)) 60 124 (ntmF T 124)).T.hint (cxF T (OrL.k ([] : OrL)) 60 124 (ntmF T 124)).me (jY (yQ T 124 [0, 1, 0, 1]))) K q σ) K js ms n m nm p).trans ?_
  rw [decide_eq_true (show (p : Int) < (n : Int) by omega), qYU (show p < n by omega), qWV (by omega), lpF K js ms n m nm hn k (p + 1) q (by omega) (by omega), toN]
  by_cases hq : ((js p).name.toList == nm.toList) = true
  ·simp only [fnd, hq, cond_true, decide_eq_false (show ¬ (p : Int) = -1 by omega), cond_false]
  ·rw [Bool.not_eq_true] at hq
   simp only [fnd, hq, cond_true, cond_false]
set_option maxRecDepth 100000 in
theorem pxF (js : Nat → J) (ms : Nat → Ms) (n m : Nat) (nm : ByteArray) : runKL T (OrL.k ([] : OrL)) (qQU [([0, 1, 0, 1], sumAt (hF js ms n m nm 0) (fun K => (bif decide (fnd js nm n 0 = -1) then K (.exit 0) ⟨[], []⟩ else K .ret ⟨[(4, .v (.n .i64 (fnd js nm n 0)))], []⟩)))]) 60 124 [(.a [.lf n (fJ js), .lf m (fM ms)]), .s nm] =
 bif gSt (hF js ms n m nm 0) (hF js ms n m nm 0) then (bif decide (fnd js nm n 0 = -1) then some (.v (.n .i64 (-1)), []) else some (.v (.n .i64 (fnd js nm n 0)), [])) else none := by kernel_rfl
theorem snd_find (js : Nat → J) (ms : Nat → Ms) (n m : Nat) (nm : ByteArray) (hn : n ≤ 50) : SndA1 Tryz.prog 124 [(.a [.lf n (fJ js), .lf m (fM ms)]), .s nm] (.v (.n .i64 (fnd js nm n 0))) := by
 refine uZ (N := 60) (LO := qQU [([0, 1, 0, 1], sumAt (hF js ms n m nm 0) (fun K => (bif decide (fnd js nm n 0 = -1) then K (.exit 0) ⟨[], []⟩ else K .ret ⟨[(4, .v (.n .i64 (fnd js nm n 0)))], []⟩)))]) tabOk mixed (OrL.ok (l := []) trivial) (fun p S hp => ?_) ?_
 ·refine qQK (L := yQ T 124) (l := [([0, 1, 0, 1], sumAt (hF js ms n m nm 0) (fun K => (bif decide (fnd js nm n 0 = -1) then K (.exit 0) ⟨[], []⟩ else K .ret ⟨[(4, .v (.n .i64 (fnd js nm n 0)))], []⟩)))]) (show AllP _ [([0, 1, 0, 1], sumAt (hF js ms n m nm 0) (fun K => (bif decide (fnd js nm n 0 = -1) then K (.exit 0) ⟨[], []⟩ else K .ret ⟨[(4, .v (.n .i64 (fnd js nm n 0)))], []⟩)))] from ⟨qZX fun K r hr => ?_, trivial⟩) p S hp
  exact (lpF K js ms n m nm (by omega) n 0 60 (by omega) (by omega)).trans hr
 ·refine (pxF js ms n m nm).trans ?_
  rw [qZV, cond_true]
  by_cases h : fnd js nm n 0 = -1
  ·rw [decide_eq_true h, h]; rfl
  ·rw [decide_eq_false h]; rfl
theorem fnd_dup (js : Nat → J) (i : Nat) : ∀ (k p : Nat), p ≤ i → i < p + k → (fnd js (js i).name k p = (i : Int) ↔ dup js (js i).name (i - p) p = false)
 | 0, p, h1, h2 => by omega
 | k + 1, p, h1, h2 => by
  by_cases he : p = i
  ·subst he
   rw [Nat.sub_self]
   simp [fnd, dup]
  ·have ih := fnd_dup js i k (p + 1) (by omega) (by omega)
   rw [show i - p = (i - (p + 1)) + 1 by omega]
   simp only [fnd, dup]
   cases ((js p).name.toList == (js i).name.toList)
   ·simpa using ih
   ·simp; omega
def cpT {α : Type} (f : Int → α) (i : Int) (j : J) : α := (bif (decide (j.kind < 0)) then (f 803) else (bif (decide (6 < j.kind)) then (f 803) else (bif (decide (j.parent < (-1))) then (f 804) else (bif (decide (i ≤ j.parent)) then (f 804) else (bif (decide (j.off.x < (-4194304))) then (f 805) else (bif (decide (4194304 < j.off.x)) then (f 805) else (bif (decide (j.off.y < (-4194304))) then (f 805) else (bif (decide (4194304 < j.off.y)) then (f 805) else (bif (decide (j.off.z < (-4194304))) then (f 805) else (bif (decide (4194304 < j.off.z)) then (f 805) else (bif (decide (j.kind = 1)) then (bif (decide (j.hi < j.lo)) then (f 806) else (bif (decide (j.lo < (-524288))) then (f 806) else (bif (decide (524288 < j.hi)) then (f 806) else (bif (decide (1 ≤ j.weight)) then (bif (decide (j.weight ≤ 1024)) then (bif (decide (1 ≤ j.speed)) then (bif (decide (j.speed ≤ 1048576)) then (bif (decide (1 ≤ j.accel)) then (bif (decide (j.accel ≤ 1048576)) then (bif (decide (1 ≤ j.torque)) then (bif (decide (j.torque ≤ 1099511627776)) then (f 0) else (f 807)) else (f 807)) else (f 807)) else (f 807)) else (f 807)) else (f 807)) else (f 807)) else (f 807))))) else (bif (decide (j.kind = 2)) then (bif (decide (j.hi < j.lo)) then (f 806) else (bif (decide (j.lo < (-524288))) then (f 806) else (bif (decide (524288 < j.hi)) then (f 806) else (bif (decide (1 ≤ j.weight)) then (bif (decide (j.weight ≤ 1024)) then (bif (decide (1 ≤ j.speed)) then (bif (decide (j.speed ≤ 1048576)) then (bif (decide (1 ≤ j.accel)) then (bif (decide (j.accel ≤ 1048576)) then (bif (decide (1 ≤ j.torque)) then (bif (decide (j.torque ≤ 1099511627776)) then (f 0) else (f 807)) else (f 807)) else (f 807)) else (f 807)) else (f 807)) else (f 807)) else (f 807)) else (f 807))))) else (bif (decide (j.kind = 3)) then (bif (decide (j.hi < j.lo)) then (f 806) else (bif (decide (j.lo < (-524288))) then (f 806) else (bif (decide (524288 < j.hi)) then (f 806) else (bif (decide (1 ≤ j.weight)) then (bif (decide (j.weight ≤ 1024)) then (bif (decide (1 ≤ j.speed)) then (bif (decide (j.speed ≤ 1048576)) then (bif (decide (1 ≤ j.accel)) then (bif (decide (j.accel ≤ 1048576)) then (bif (decide (1 ≤ j.torque)) then (bif (decide (j.torque ≤ 1099511627776)) then (f 0) else (f 807)) else (f 807)) else (f 807)) else (f 807)) else (f 807)) else (f 807)) else (f 807)) else (f 807))))) else (bif (decide (j.kind = 4)) then (bif (decide (j.hi < j.lo)) then (f 806) else (bif (decide (j.lo < (-4194304))) then (f 806) else (bif (decide (4194304 < j.hi)) then (f 806) else (bif (decide (1 ≤ j.weight)) then (bif (decide (j.weight ≤ 1024)) then (bif (decide (1 ≤ j.speed)) then (bif (decide (j.speed ≤ 1048576)) then (bif (decide (1 ≤ j.accel)) then (bif (decide (j.accel ≤ 1048576)) then (bif (decide (1 ≤ j.torque)) then (bif (decide (j.torque ≤ 1099511627776)) then (f 0) else (f 807)) else (f 807)) else (f 807)) else (f 807)) else (f 807)) else (f 807)) else (f 807)) else (f 807))))) else (bif (decide (j.kind = 5)) then (bif (decide (j.hi < j.lo)) then (f 806) else (bif (decide (j.lo < (-4194304))) then (f 806) else (bif (decide (4194304 < j.hi)) then (f 806) else (bif (decide (1 ≤ j.weight)) then (bif (decide (j.weight ≤ 1024)) then (bif (decide (1 ≤ j.speed)) then (bif (decide (j.speed ≤ 1048576)) then (bif (decide (1 ≤ j.accel)) then (bif (decide (j.accel ≤ 1048576)) then (bif (decide (1 ≤ j.torque)) then (bif (decide (j.torque ≤ 1099511627776)) then (f 0) else (f 807)) else (f 807)) else (f 807)) else (f 807)) else (f 807)) else (f 807)) else (f 807)) else (f 807))))) else (bif (decide (j.kind = 6)) then (bif (decide (j.hi < j.lo)) then (f 806) else (bif (decide (j.lo < (-4194304))) then (f 806) else (bif (decide (4194304 < j.hi)) then (f 806) else (bif (decide (1 ≤ j.weight)) then (bif (decide (j.weight ≤ 1024)) then (bif (decide (1 ≤ j.speed)) then (bif (decide (j.speed ≤ 1048576)) then (bif (decide (1 ≤ j.accel)) then (bif (decide (j.accel ≤ 1048576)) then (bif (decide (1 ≤ j.torque)) then (bif (decide (j.torque ≤ 1099511627776)) then (f 0) else (f 807)) else (f 807)) else (f 807)) else (f 807)) else (f 807)) else (f 807)) else (f 807)) else (f 807))))) else (bif (decide (j.hi < j.lo)) then (f 806) else (bif (decide (j.lo < 0)) then (f 806) else (bif (decide (0 < j.hi)) then (f 806) else (bif (decide (1 ≤ j.weight)) then (bif (decide (j.weight ≤ 1024)) then (bif (decide (1 ≤ j.speed)) then (bif (decide (j.speed ≤ 1048576)) then (bif (decide (1 ≤ j.accel)) then (bif (decide (j.accel ≤ 1048576)) then (bif (decide (1 ≤ j.torque)) then (bif (decide (j.torque ≤ 1099511627776)) then (f 0) else (f 807)) else (f 807)) else (f 807)) else (f 807)) else (f 807)) else (f 807)) else (f 807)) else (f 807)))))))))))))))))))))
theorem cp_cj {α : Type} (f : Int → α) (i : Int) (j : J) : cpT f i j = cjT f i j := by
 unfold cpT cjT
 by_cases h0 : j.kind < 0
 ·simp only [decide_eq_true h0, cond_true]
 by_cases h6 : 6 < j.kind
 ·simp only [decide_eq_true h6, cond_true]
 rcases (by omega : j.kind = 0 ∨ j.kind = 1 ∨ j.kind = 2 ∨ j.kind = 3 ∨ j.kind = 4 ∨ j.kind = 5 ∨ j.kind = 6) with h | h | h | h | h | h | h
 ·simp only [decide_eq_true (show j.kind = 0 by omega), decide_eq_false (show ¬ j.kind = 1 by omega), decide_eq_false (show ¬ j.kind = 2 by omega), decide_eq_false (show ¬ j.kind = 3 by omega), decide_eq_false (show ¬ j.kind = 4 by omega), decide_eq_false (show ¬ j.kind = 5 by omega), decide_eq_false (show ¬ j.kind = 6 by omega), cond_true, cond_false]
 ·simp only [decide_eq_false (show ¬ j.kind = 0 by omega), decide_eq_true (show j.kind = 1 by omega), decide_eq_false (show ¬ j.kind = 2 by omega), decide_eq_false (show ¬ j.kind = 3 by omega), decide_eq_false (show ¬ j.kind = 4 by omega), decide_eq_false (show ¬ j.kind = 5 by omega), decide_eq_false (show ¬ j.kind = 6 by omega), cond_true, cond_false]
 ·simp only [decide_eq_false (show ¬ j.kind = 0 by omega), decide_eq_false (show ¬ j.kind = 1 by omega), decide_eq_true (show j.kind = 2 by omega), decide_eq_false (show ¬ j.kind = 3 by omega), decide_eq_false (show ¬ j.kind = 4 by omega), decide_eq_false (show ¬ j.kind = 5 by omega), decide_eq_false (show ¬ j.kind = 6 by omega), cond_true, cond_false]
 ·simp only [decide_eq_false (show ¬ j.kind = 0 by omega), decide_eq_false (show ¬ j.kind = 1 by omega), decide_eq_false (show ¬ j.kind = 2 by omega), decide_eq_true (show j.kind = 3 by omega), decide_eq_false (show ¬ j.kind = 4 by omega), decide_eq_false (show ¬ j.kind = 5 by omega), decide_eq_false (show ¬ j.kind = 6 by omega), cond_true, cond_false]
 ·simp only [decide_eq_false (show ¬ j.kind = 0 by omega), decide_eq_false (show ¬ j.kind = 1 by omega), decide_eq_false (show ¬ j.kind = 2 by omega), decide_eq_false (show ¬ j.kind = 3 by omega), decide_eq_true (show j.kind = 4 by omega), decide_eq_false (show ¬ j.kind = 5 by omega), decide_eq_false (show ¬ j.kind = 6 by omega), cond_true, cond_false]
 ·simp only [decide_eq_false (show ¬ j.kind = 0 by omega), decide_eq_false (show ¬ j.kind = 1 by omega), decide_eq_false (show ¬ j.kind = 2 by omega), decide_eq_false (show ¬ j.kind = 3 by omega), decide_eq_false (show ¬ j.kind = 4 by omega), decide_eq_true (show j.kind = 5 by omega), decide_eq_false (show ¬ j.kind = 6 by omega), cond_true, cond_false]
 ·simp only [decide_eq_false (show ¬ j.kind = 0 by omega), decide_eq_false (show ¬ j.kind = 1 by omega), decide_eq_false (show ¬ j.kind = 2 by omega), decide_eq_false (show ¬ j.kind = 3 by omega), decide_eq_false (show ¬ j.kind = 4 by omega), decide_eq_false (show ¬ j.kind = 5 by omega), decide_eq_true (show j.kind = 6 by omega), cond_true, cond_false]
def jErr (js : Nat → J) (n i : Nat) : Int := bif nmB (js i).name then (bif dup js (js i).name i 0 then 802 else cjT (fun e => e) i (js i)) else 802
noncomputable def zZW : List PV → Option (Bool × Ret) := fun ps => match ps with
 | [.s s] => some (true, .v (.b (nmB s)))
 | _ => none
theorem ok_tn : OneOk Tryz.prog 123 zZW := by
 intro ps r hh
 unfold zZW at hh
 split at hh
 ·simp only [Option.some.injEq, Prod.mk.injEq] at hh
  obtain ⟨_, rfl⟩ := hh
  exact snd_Tn _
 ·cases hh
theorem ok_rn : OneOk Tryz.prog 129 zZW := by
 intro ps r hh
 unfold zZW at hh
 split at hh
 ·simp only [Option.some.injEq, Prod.mk.injEq] at hh
  obtain ⟨_, rfl⟩ := hh
  exact snd_Rn _
 ·cases hh
noncomputable def o_fd (js : Nat → J) (ms : Nat → Ms) (n m : Nat) : List PV → Option (Bool × Ret) := fun ps => match ps with
 | [r, .s s] => some (gEq r (.a [.lf n (fJ js), .lf m (fM ms)]), .v (.n .i64 (fnd js s n 0)))
 | _ => none
theorem ok_fd (js : Nat → J) (ms : Nat → Ms) (n m : Nat) (hn : n ≤ 50) : OneOk Tryz.prog 124 (o_fd js ms n m) := by
 intro ps r hh
 unfold o_fd at hh
 split at hh
 ·simp only [Option.some.injEq, Prod.mk.injEq] at hh
  obtain ⟨hg, rfl⟩ := hh
  obtain rfl := zQZ hg
  exact snd_find _ _ _ _ _ hn
 ·cases hh
set_option maxRecDepth 100000 in
theorem tr_cjp (js : Nat → J) (ms : Nat → Ms) (n m : Nat) (i : Int) : runK T (OrL.k [(123, zZW), (124, o_fd js ms n m)]) 60 79 [(.a [.lf n (fJ js), .lf m (fM ms)]), .n .i64 i] =
 bif inB i n then (bif nmB (js i.toNat).name then (bif gEq (.a [.lf n (fJ js), .lf m (fM ms)]) (.a [.lf n (fJ js), .lf m (fM ms)]) then (bif !decide (fnd js (js i.toNat).name n 0 = i) then some (.v (.n .i64 802), []) else cpT F_n i (js i.toNat)) else none) else some (.v (.n .i64 802), [])) else none := by kernel_rfl
theorem F_cj (i : Int) (j : J) : cjT F_n i j = F_n (cjT (fun e => e) i j) := by
 unfold cjT
 simp only [Bool.apply_cond F_n]
theorem snd_cjp (js : Nat → J) (ms : Nat → Ms) (n m : Nat) (hn : n ≤ 50) (i : Nat) (hi : i < n) : SndA1 Tryz.prog 79 [(.a [.lf n (fJ js), .lf m (fM ms)]), .n .i64 i] (.v (.n .i64 (jErr js n i))) := by
 refine yV (N := 60) tabOk mixed (OrL.ok (l := [(123, zZW), (124, o_fd js ms n m)]) ⟨ok_tn, ok_fd js ms n m hn, trivial⟩) ?_
 rw [tr_cjp, qYU hi, cond_true, toN, gEq_self, cond_true, cp_cj, F_cj]
 have hd := fnd_dup js i n 0 (by omega) (by omega)
 rw [Nat.sub_zero] at hd
 unfold jErr
 cases nmB (js i).name with
 | false => rfl
 | true =>
  cases hq : dup js (js i).name i 0 with
  | false => rw [decide_eq_true (hd.2 hq)]; rfl
  | true => rw [decide_eq_false (fun h => by rw [hd.1 h] at hq; cases hq)]; rfl
def hC (js : Nat → J) (n : Nat) (i : Int) (k : Int) : St := ⟨[(0, .v (.lf n (fJ js))), (1, .v (.n .i64 i)), (5, .p 5 0), (6, .v (.n .i64 k))], [(5, .blk [.v (.s (js (i).toNat).name), .v (.n .i64 (js (i).toNat).kind), .v (.n .i64 (js (i).toNat).parent), .v (.n .i64 (js (i).toNat).off.x), .v (.n .i64 (js (i).toNat).off.y), .v (.n .i64 (js (i).toNat).off.z), .v (.n .i64 (js (i).toNat).lo), .v (.n .i64 (js (i).toNat).hi), .v (.n .i64 (js (i).toNat).weight), .v (.n .i64 (js (i).toNat).speed), .v (.n .i64 (js (i).toNat).accel), .v (.n .i64 (js (i).toNat).torque)])]⟩
set_option maxRecDepth 100000 in
theorem rdC (G : St → Option (Ret × Mem)) (K : Cont) (js : Nat → J) (n : Nat) (i : Int) (k : Int) : runCK 60 (cxF T (OrL.k [(129, zZW)]) 60 84 (ntmF T 84)) (ckF T (OrL.k [(129, zZW)]) 60) (yQ T 84 [0, 1, 0, 1, 1, 1]) (fun e τ => match e with
 | .normal => G (prune ((cxF T (OrL.k [(129, zZW)]) 60 84 (ntmF T 84)).T.hint (cxF T (OrL.k [(129, zZW)]) 60 84 (ntmF T 84)).me (jY (yQ T 84 [0, 1, 0, 1, 1, 1]))) τ)
 | e => K e (qXG ((cxF T (OrL.k [(129, zZW)]) 60 84 (ntmF T 84)).T.hint (cxF T (OrL.k [(129, zZW)]) 60 84 (ntmF T 84)).me (jY (yQ T 84 [0, 1, 0, 1, 1, 1]))) τ)) (hC js n i k) =
 (bif (decide (k < i)) then (bif (inB k n) then (bif ((js (k).toNat).name.toList == (js (i).toNat).name.toList) then (K .ret ⟨[(1, .v (.n .i64 i)), (4, .v (.n .i64 802)), (5, .p 5 0)], [(5, .blk [.v (.s (js (i).toNat).name), .v (.n .i64 (js (i).toNat).kind), .v (.n .i64 (js (i).toNat).parent), .v (.n .i64 (js (i).toNat).off.x), .v (.n .i64 (js (i).toNat).off.y), .v (.n .i64 (js (i).toNat).off.z), .v (.n .i64 (js (i).toNat).lo), .v (.n .i64 (js (i).toNat).hi), .v (.n .i64 (js (i).toNat).weight), .v (.n .i64 (js (i).toNat).speed), .v (.n .i64 (js (i).toNat).accel), .v (.n .i64 (js (i).toNat).torque)])]⟩)
 else (G (hC js n i (IntKind.i64.wrap (k + 1)))))
 else none)
 else (K (.exit 0) ⟨[(1, .v (.n .i64 i)), (5, .p 5 0)], [(5, .blk [.v (.s (js (i).toNat).name), .v (.n .i64 (js (i).toNat).kind), .v (.n .i64 (js (i).toNat).parent), .v (.n .i64 (js (i).toNat).off.x), .v (.n .i64 (js (i).toNat).off.y), .v (.n .i64 (js (i).toNat).off.z), .v (.n .i64 (js (i).toNat).lo), .v (.n .i64 (js (i).toNat).hi), .v (.n .i64 (js (i).toNat).weight), .v (.n .i64 (js (i).toNat).speed), .v (.n .i64 (js (i).toNat).accel), .v (.n .i64 (js (i).toNat).torque)])]⟩)) := by kernel_rfl
def rC (js : Nat → J) (i : Int) : St := ⟨[(1, .v (.n .i64 i)), (4, .v (.n .i64 802)), (5, .p 5 0)], [(5, .blk [.v (.s (js (i).toNat).name), .v (.n .i64 (js (i).toNat).kind), .v (.n .i64 (js (i).toNat).parent), .v (.n .i64 (js (i).toNat).off.x), .v (.n .i64 (js (i).toNat).off.y), .v (.n .i64 (js (i).toNat).off.z), .v (.n .i64 (js (i).toNat).lo), .v (.n .i64 (js (i).toNat).hi), .v (.n .i64 (js (i).toNat).weight), .v (.n .i64 (js (i).toNat).speed), .v (.n .i64 (js (i).toNat).accel), .v (.n .i64 (js (i).toNat).torque)])]⟩
def oC (js : Nat → J) (i : Int) : St := ⟨[(1, .v (.n .i64 i)), (5, .p 5 0)], [(5, .blk [.v (.s (js (i).toNat).name), .v (.n .i64 (js (i).toNat).kind), .v (.n .i64 (js (i).toNat).parent), .v (.n .i64 (js (i).toNat).off.x), .v (.n .i64 (js (i).toNat).off.y), .v (.n .i64 (js (i).toNat).off.z), .v (.n .i64 (js (i).toNat).lo), .v (.n .i64 (js (i).toNat).hi), .v (.n .i64 (js (i).toNat).weight), .v (.n .i64 (js (i).toNat).speed), .v (.n .i64 (js (i).toNat).accel), .v (.n .i64 (js (i).toNat).torque)])]⟩
theorem lpC (K : Cont) (js : Nat → J) (n i : Nat) (hn : n ≤ 1000) (hi : i < n) : ∀ (k p q : Nat), p + k = i → k < q → LF 60 (cxF T (OrL.k [(129, zZW)]) 60 84 (ntmF T 84)) (ckF T (OrL.k [(129, zZW)]) 60) (yQ T 84 [0, 1, 0, 1, 1, 1]) ((cxF T (OrL.k [(129, zZW)]) 60 84 (ntmF T 84)).T.hint (cxF T (OrL.k [(129, zZW)]) 60 84 (ntmF T 84)).me (jY (yQ T 84 [0, 1, 0, 1, 1, 1]))) K q (hC js n i p) = bif dup js (js i).name k p then (K .ret (rC js i)) else (K (.exit 0) (oC js i))
 | 0, p, q + 1, hp, hq => by
  refine (rdC (fun σ => LF 60 (cxF T (OrL.k [(129, zZW)]) 60 84 (ntmF T 84)) (ckF T (OrL.k [(129, zZW)]) 60) (yQ T 84 [0, 1, 0, 1, 1, 1]) ((cxF T (OrL.k [(129, zZW)]) 60 84 (ntmF T 84)).T.hint (cxF T (OrL.k [(129, zZW)]) 60 84 (ntmF T 84)).me (jY (yQ T 84 [0, 1, 0, 1, 1, 1]))) K q σ) K js n i p).trans ?_
  rw [decide_eq_false (show ¬ (p : Int) < (i : Int) by omega)]
  rfl
 | k + 1, p, q + 1, hp, hq => by
  refine (rdC (fun σ => LF 60 (cxF T (OrL.k [(129, zZW)]) 60 84 (ntmF T 84)) (ckF T (OrL.k [(129, zZW)]) 60) (yQ T 84 [0, 1, 0, 1, 1, 1]) ((cxF T (OrL.k [(129, zZW)]) 60 84 (ntmF T 84)).T.hint (cxF T (OrL.k [(129, zZW)]) 60 84 (ntmF T 84)).me (jY (yQ T 84 [0, 1, 0, 1, 1, 1]))) K q σ) K js n i p).trans ?_
  rw [decide_eq_true (show (p : Int) < (i : Int) by omega), qYU (show p < n by omega), qWV (by omega), lpC K js n i hn hi k (p + 1) q (by omega) (by omega), toN, toN]
  simp only [cond_true, dup]
  cases ((js p).name.toList == (js i).name.toList) <;> rfl
set_option maxRecDepth 100000 in
theorem pxC (js : Nat → J) (n : Nat) (i : Int) : runKL T (OrL.k [(129, zZW)]) (qQU [([0, 1, 0, 1, 1, 1], sumAt (hC js n i 0) (fun K => bif dup js (js i.toNat).name i.toNat 0 then (K .ret (rC js i)) else (K (.exit 0) (oC js i))))]) 60 84 [.lf n (fJ js), .n .i64 i] =
 bif inB i n then (bif nmB (js i.toNat).name then (bif gSt (hC js n i 0) (hC js n i 0) then (bif dup js (js i.toNat).name i.toNat 0 then some (.v (.n .i64 802), []) else cjT F_n i (js i.toNat)) else none) else some (.v (.n .i64 802), [])) else none := by kernel_rfl
theorem snd_cjr (js : Nat → J) (n : Nat) (hn : n ≤ 50) (i : Nat) (hi : i < n) : SndA1 Tryz.prog 84 [.lf n (fJ js), .n .i64 i] (.v (.n .i64 (jErr js n i))) := by
 refine uZ (N := 60) (LO := qQU [([0, 1, 0, 1, 1, 1], sumAt (hC js n (i : Int) 0) (fun K => bif dup js (js (i : Int).toNat).name (i : Int).toNat 0 then (K .ret (rC js i)) else (K (.exit 0) (oC js i))))]) tabOk mixed (OrL.ok (l := [(129, zZW)]) ⟨ok_rn, trivial⟩) (fun p S hp => ?_) ?_
 ·refine qQK (L := yQ T 84) (l := [([0, 1, 0, 1, 1, 1], sumAt (hC js n (i : Int) 0) (fun K => bif dup js (js (i : Int).toNat).name (i : Int).toNat 0 then (K .ret (rC js i)) else (K (.exit 0) (oC js i))))]) (show AllP _ [([0, 1, 0, 1, 1, 1], sumAt (hC js n (i : Int) 0) (fun K => bif dup js (js (i : Int).toNat).name (i : Int).toNat 0 then (K .ret (rC js i)) else (K (.exit 0) (oC js i))))] from ⟨qZX fun K r hr => ?_, trivial⟩) p S hp
  have := lpC K js n i (by omega) hi i 0 60 (by omega) (by omega)
  rw [toN] at hr
  exact this.trans hr
 ·refine (pxC js n i).trans ?_
  rw [qYU hi, cond_true, toN, qZV, cond_true, F_cj]
  unfold jErr
  cases nmB (js i).name <;> cases dup js (js i).name i 0 <;> rfl
end Go.Proofs.YtmbnpjpggccefaaGreat.Nb

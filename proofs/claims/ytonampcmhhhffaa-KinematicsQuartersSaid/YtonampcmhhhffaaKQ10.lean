/- Part 10 of the texts behind the last one: rules and contracts. No condition. -/
import Derived.Test.YtonampcmhhhffaaKQ9
namespace Go.Proofs.Ytonampcmhhhffaa
open Go.Sx Go.RowKit
theorem let0 : (letterB 0).size = 1 ∧ Utf8.decode (letterB 0) 0 = (97, 1) ∧ ((letterB 0).toList == (ByteArray.mk #[119, 111, 114, 108, 100]).toList) = false := by refine ⟨?_, ?_, ?_⟩ <;> kernel_rfl
theorem let1 : (letterB 1).size = 1 ∧ Utf8.decode (letterB 1) 0 = (98, 1) ∧ ((letterB 1).toList == (ByteArray.mk #[119, 111, 114, 108, 100]).toList) = false := by refine ⟨?_, ?_, ?_⟩ <;> kernel_rfl
theorem let2 : (letterB 2).size = 1 ∧ Utf8.decode (letterB 2) 0 = (99, 1) ∧ ((letterB 2).toList == (ByteArray.mk #[119, 111, 114, 108, 100]).toList) = false := by refine ⟨?_, ?_, ?_⟩ <;> kernel_rfl
theorem ne01 : ((letterB 0).toList == (letterB 1).toList) = false := by kernel_rfl
theorem ne02 : ((letterB 0).toList == (letterB 2).toList) = false := by kernel_rfl
theorem ne12 : ((letterB 1).toList == (letterB 2).toList) = false := by kernel_rfl
theorem letter_ok (k : Nat) (h : k < 3) : ∃ c : Nat, (letterB k).size = 1 ∧ Utf8.decode (letterB k) 0 = (c, 1) ∧ (97 ≤ c ∧ c ≤ 122) ∧ ((letterB k).toList == (ByteArray.mk #[119, 111, 114, 108, 100]).toList) = false := by
  rcases (show k = 0 ∨ k = 1 ∨ k = 2 by omega) with rfl | rfl | rfl
  · exact ⟨97, let0.1, let0.2.1, by omega, let0.2.2⟩
  · exact ⟨98, let1.1, let1.2.1, by omega, let1.2.2⟩
  · exact ⟨99, let2.1, let2.2.1, by omega, let2.2.2⟩
theorem letter_ne (a b : Nat) (h : a < b) (hb : b < 3) : ((letterB a).toList == (letterB b).toList) = false := by
  rcases (show (a = 0 ∧ b = 1) ∨ (a = 0 ∧ b = 2) ∨ (a = 1 ∧ b = 2) by omega) with ⟨rfl, rfl⟩ | ⟨rfl, rfl⟩ | ⟨rfl, rfl⟩
  · exact ne01
  · exact ne02
  · exact ne12
theorem joint_lim (L : List Int) (p : Nat) (k : Int) : -limK (jointOf L p k).1.kind ≤ (jointOf L p k).1.lo ∧ (jointOf L p k).1.hi ≤ limK (jointOf L p k).1.kind := by
  have hk := (jointOf_same L p k).2.1
  rw [hk]
  by_cases h0 : kindOf (srcR L (p + 2) 8) = 0
  · rw [jointOf_fix h0, h0]
    exact ⟨by show -limK 0 ≤ 0; decide, by show 0 ≤ limK 0; decide⟩
  · by_cases h : kindOf (srcR L (p + 2) 8) = 4 ∨ kindOf (srcR L (p + 2) 8) = 5
    · rw [jointOf_sl h]
      have a := srcR_bnd L (jQ p k) (k := 3) (by decide)
      have b := srcR_bnd L (jQ p k + 1) (k := 4) (by decide)
      have e : limK (kindOf (srcR L (p + 2) 8)) = 4194304 := by unfold limK; rw [if_neg (by omega), if_pos (by omega)]
      rw [e]
      dsimp only
      omega
    · rw [jointOf_tu h0 h]
      have a := srcR_bnd L (jQ p k) (k := 5) (by decide)
      have b := srcR_bnd L (jQ p k + 1) (k := 4) (by decide)
      have c := srcR_bnd L (jQ p k + 2) (k := 3) (by decide)
      have e : 524288 ≤ limK (kindOf (srcR L (p + 2) 8)) := by
        have := kindOf_b (srcR L (p + 2) 8)
        unfold limK
        repeat' split
        all_goals omega
      dsimp only
      rw [Int.tdiv_eq_ediv_of_nonneg (a := (1 + srcR L (jQ p k + 1) 4) * 65536) (by omega), show (-srcR L (jQ p k) 5 * 65536).tdiv 8 = -(srcR L (jQ p k) 5 * 8192) by
        rw [show -srcR L (jQ p k) 5 * 65536 = -(srcR L (jQ p k) 5 * 8192) * 8 by omega]
        exact Int.mul_tdiv_cancel _ (by decide)]
      omega
theorem base_b (L : List Int) (p k : Nat) : (-1 ≤ (jBase L p (k : Int)).parent ∧ (jBase L p (k : Int)).parent < k) ∧ (-4194304 ≤ (jBase L p (k : Int)).off.x ∧ (jBase L p (k : Int)).off.x ≤ 4194304) ∧ (-4194304 ≤ (jBase L p (k : Int)).off.y ∧ (jBase L p (k : Int)).off.y ≤ 4194304) ∧ (-4194304 ≤ (jBase L p (k : Int)).off.z ∧ (jBase L p (k : Int)).off.z ≤ 4194304) := by
  have c := srcR_bnd L (p + 4) (k := 2 * 2 + 1) (by decide)
  have d := srcR_bnd L (p + 5) (k := 2 * 1 + 1) (by decide)
  unfold jBase srcS
  dsimp only
  refine ⟨?_, ?_⟩
  · split <;> omega
  · split <;> (dsimp only; omega)
theorem made_JOK (L : List Int) (i n : Nat) (hn : n ≤ 3) (k : Nat) (j : J) (h : (jsOf L i n).1[k]? = some j) : JOK (jsOf L i n).1 k j := by
  have hk : k < n := by have := (List.getElem?_eq_some_iff.1 h).1; rw [jsOf_len] at this; exact this
  obtain ⟨p, rfl⟩ := jsOf_get L i n k j h
  obtain ⟨s1, s2, s3, s4, s5, s6, s7, s8⟩ := jointOf_same L p (k : Int)
  obtain ⟨c, l1, l2, l3, l4⟩ := letter_ok k (by omega)
  obtain ⟨b1, b2, b3, b4⟩ := base_b L p k
  have lim := joint_lim L p (k : Int)
  have jb := jointOf_b L p (k : Int)
  have a := srcR_bnd L p (k := 4) (by decide)
  have b := srcR_bnd L (p + 1) (k := 3) (by decide)
  refine ⟨c, fun q hq j2 h2 => ?_, by rw [s1]; exact l1, by rw [s1]; exact l2, l3, by rw [s1]; exact l4, by rw [s2]; exact kindOf_b _, by rw [s3]; exact b1, by rw [s4]; exact b2, by rw [s4]; exact b3, by rw [s4]; exact b4, ⟨jb.2.1, lim.1, lim.2⟩, by rw [s5]; omega, by rw [s6]; omega, by rw [s7]; omega, by rw [s8]; omega⟩
  obtain ⟨p2, rfl⟩ := jsOf_get L i n q j2 h2
  rw [(jointOf_same L p2 (q : Int)).1, s1]
  exact letter_ne q k hq (by omega)
end Go.Proofs.Ytonampcmhhhffaa
namespace Go.Proofs.Ytonampcmhhhffaa
open Go.Sx Go.RowKit
theorem madeLinks {l : List Int} {aj am ab : Option Addr} {cj cm cb : Nat} {bx : List Iv} (w : World) (hb : bx.length = nJ l 0) (hv : ∀ a ∈ bx, Iv.valid a = true) (hS : SlcIs 12 aj ((jsOf l 0 (nJ l 0)).1.map jc) w) (hM : SlcIs 5 am ((msOf l 0 (nM l 0)).map mc) w) (hT : SlcIs 2 ab (bx.map ivc) w) :
    Calls Try.prog 70 [.agg #[.slice aj (nJ l 0) cj, .slice am (nM l 0) cm], .slice ab (nJ l 0) cb].toArray w (RetsF (X := Nat) (fun _ => True) (fun b => .slice (some ⟨b, 0, none⟩) (nJ l 0) (nJ l 0)) (fun b => SlcIs 24 (some ⟨b, 0, none⟩) ((lks (jsOf l 0 (nJ l 0)).1 bx (nJ l 0)).map pc)) w) := by
  have hn := nJ_b l 0
  have hm := nM_b l 0
  exact kLinksAll aj am ab cj (nM l 0) cm cb (nJ l 0) (jsOf l 0 (nJ l 0)).1 (msOf l 0 (nM l 0)) bx (by omega) (by omega) (jsOf_len _ _ _) (msOf_len _ _ _) hb (fun i j h => made_JOK l 0 (nJ l 0) hn.2.1 i j h) (fun m h => msOf_get l 0 _ m h) hv w hS hM hT
end Go.Proofs.Ytonampcmhhhffaa
namespace Go.Proofs.Ytonampcmhhhffaa
open Go.Sx
theorem en56 : Enters Try.prog 56 := enters_of Try.func56 (by kernel_rfl) (by kernel_rfl)
theorem en71 : Enters Try.prog 71 := enters_of Try.func71 (by kernel_rfl) (by kernel_rfl)
theorem en72 : Enters Try.prog 72 := enters_of Try.func72 (by kernel_rfl) (by kernel_rfl)
theorem en70 : Enters Try.prog 70 := enters_of Try.func70 (by kernel_rfl) (by kernel_rfl)
theorem sl92 : slcB Try.prog 92 63 24 = true := by kernel_rfl
theorem en58 : Enters Try.prog 58 := enters_of Try.func58 (by kernel_rfl) (by kernel_rfl)
theorem madeCfg {lv : Value} {l l2 : List Int} {aj am : Option Addr} {cj nm cm : Nat} (w : World) (hl : IntsAt w w.heap.size lv l2) (hS : SlcIs 12 aj ((jsOf l 0 (nJ l 0)).1.map jc) w) :
    Calls Try.prog 71 [.agg #[.slice aj (nJ l 0) cj, .slice am nm cm], lv].toArray w (RetsF (X := Option Addr × Nat) (fun _ => True) (fun x => .slice x.1 (nJ l 0) x.2) (fun x => OwnF 0 2 1 x.1 x.2 (nJ l 0) (icC (cfgs l2 (jsOf l 0 (nJ l 0)).1 (nJ l 0)).1)) w) := by
  have h := mkCfg lv l2 aj am cj nm cm (jsOf l 0 (nJ l 0)).1 (by rw [jsOf_len]; have := nJ_b l 0; omega) (jsOf_b l 0 _) w hl hS
  rw [jsOf_len] at h
  exact h
theorem pts1_valid {cs : List Int} (h : ∀ x ∈ cs, -1000000 ≤ x ∧ x ≤ 1000000) : ∀ a ∈ pts1 cs, Iv.valid a = true := fun a ha => by
  obtain ⟨x, hx, rfl⟩ := List.mem_map.1 ha
  have := h x hx
  unfold Iv.valid
  simp only [Bool.and_eq_true, decide_eq_true_eq]
  omega
theorem quart_val {q : Int} (h1 : -5 ≤ q) (h2 : q ≤ 5) : IntKind.i64.wrap ((q * 65536).tdiv 4) = 16384 * q := by
  rw [show q * 65536 = (16384 * q) * 4 by omega, Int.mul_tdiv_cancel _ (by decide)]
  exact i64_in (by omega)
theorem set_b {cs : List Int} {i : Nat} {q : Int} (h : ∀ x ∈ cs, -1000000 ≤ x ∧ x ≤ 1000000) (h1 : -5 ≤ q) (h2 : q ≤ 5) : ∀ x ∈ cs.set i (16384 * q), -1000000 ≤ x ∧ x ≤ 1000000 := fun x hx => by
  rcases List.mem_or_eq_of_mem_set hx with hx | hx
  · exact h x hx
  · omega
theorem qok_set {js : List J} {cs : List Int} {i : Nat} {q : Int} (h : QOK js cs i) (h1 : -5 ≤ q) (h2 : q ≤ 5) (hi : i < cs.length) : QOK js (cs.set i (16384 * q)) (i + 1) := fun m j x hm hj hx hk => by
  rcases Nat.lt_or_ge m i with hmi | hmi
  · rw [List.getElem?_set_ne (by omega)] at hx
    exact h m j x hmi hj hx hk
  · obtain rfl : m = i := by omega
    rw [List.getElem?_set_self hi] at hx
    exact ⟨q, ⟨h1, h2⟩, (Option.some.inj hx).symm⟩
theorem qok_skip {js : List J} {cs : List Int} {i : Nat} {j0 : J} (h : QOK js cs i) (hj0 : js[i]? = some j0) (hk0 : ¬ j0.kind < 4) : QOK js cs (i + 1) := fun m j x hm hj hx hk => by
  rcases Nat.lt_or_ge m i with hmi | hmi
  · exact h m j x hmi hj hx hk
  · obtain rfl : m = i := by omega
    rw [hj0] at hj
    cases hj
    exact absurd hk hk0
theorem icC_set {cs : List Int} {i : Nat} {x : Int} : ((cs.map ic).set i (ic x)).flatten = icC (cs.set i x) := by
  unfold icC
  rw [List.map_set]
theorem icC_ne {cs : List Int} (h : 0 < cs.length) : icC cs ≠ [] := by
  cases cs with
  | nil => cases h
  | cons x cs => simp [icC, ic]
theorem wKQuart (lv : Value) (l : List Int) (ov : Value) (o : List Int) (w : World) (hl : IntsAt w w.heap.size lv l) (ho : IntsAt w w.heap.size ov o) : Calls Try.prog 20 [lv, ov].toArray w (Rets (vB (true)) (w)) := by
  refine calls_of_doC (n := 144) Try.func20 rfl rfl rfl ?_
  refine doC_seq ?_
  refine doC_region ?_
  refine doL_v (opV_assign rfl) rfl rfl rfl ?_
  refine doL_nil ?_
  refine post_then ?_
  refine doC_seq ?_
  refine doC_region ?_
  refine doL_v (opV_move rfl) rfl rfl rfl ?_
  refine doL_told 13 en56 rfl (fun w' k => mkScene _ l w' (intsAt_grow hl k.grow k.grow.size)) rfl rfl ?_; intro x13 Dx13 _
  unfold scV
  have hn := nJ_b l 0
  have hjl := jsOf_len l 0 (nJ l 0)
  refine doL_alloc 5 ze78 rfl rfl rfl ?_; intro b5
  refine doL_store 5 ty78 rfl rfl rfl rfl rfl rfl rfl rfl ?_
  refine doL_nil ?_
  refine post_then ?_
  refine doC_seq ?_
  refine doC_region ?_
  refine doL_v (opV_move rfl) rfl rfl rfl ?_
  refine doL_callNew 15 en26 rfl (fun w' k => mFrom w' (intsAt_grow ho k.grow (Nat.le_refl _))) rfl rfl ?_; intro b15
  refine doL_v (opV_assign rfl) rfl rfl rfl ?_
  refine doL_nil ?_
  refine post_then ?_
  refine doC_seq ?_
  refine doC_region ?_
  refine doL_v (opV_fieldAddr fa78_0 rfl) rfl rfl rfl ?_
  refine doL_v (opV_loadA 5 ty74 rfl rfl rfl) rfl rfl rfl ?_
  refine doL_v (opV_move rfl) rfl rfl rfl ?_
  refine doL_told 19 en71 rfl (fun w' k => madeCfg w' (intsAt_grow ho k.grow k.grow.size) (((holds_r (id := 13) rfl).imp fun _ h => h.1.1) _ _ k)) rfl rfl ?_; intro x19 Dx19 _
  obtain ⟨ac, cc⟩ := x19
  dsimp only
  have hcl0 : (cfgs o (jsOf l 0 (nJ l 0)).1 (nJ l 0)).1.length = nJ l 0 := cfgs_len (nJ l 0) (by omega)
  have hcv0 := cfgs_b (l := o) (js := (jsOf l 0 (nJ l 0)).1) (jsOf_b l 0 _) (nJ l 0)
  generalize (cfgs o (jsOf l 0 (nJ l 0)).1 (nJ l 0)).1 = cs0 at *
  refine doL_v (opV_assign rfl) rfl rfl rfl ?_
  refine doL_nil ?_
  refine post_then ?_
  refine doC_seq ?_
  refine doC_seq ?_
  refine doC_sharp 19 rfl (icC_ne (by omega)) rfl ?_
  refine doC_region ?_
  refine doL_v (opV_assign rfl) rfl rfl rfl ?_
  refine doL_nil ?_
  refine post_then ?_
  refine doC_block ?_
  refine doC_loopK [5, 6, 7] [5] (α := Nat × Nat × List Int) (fun x => nJ l 0 - x.1) (fun x => x.1 ≤ nJ l 0 ∧ x.2.2.length = nJ l 0 ∧ (∀ y ∈ x.2.2, -1000000 ≤ y ∧ y ≤ 1000000) ∧ QOK (jsOf l 0 (nJ l 0)).1 x.2.2 x.1) (fun x => ⟨w, [(19, ownD ac, OwnF 0 2 1 ac cc (nJ l 0) (icC x.2.2)), (13, Dx13, scF l x13)]⟩) (fun x => [(8, .int .i64 (x.1 : Int))]) (fun x => [(15, b15, srcC ov o x.2.1, 105)]) (0, 0, cs0) rfl rfl ?_ ?_ ?_ ?_ rfl ?_
  ·
    exact ⟨Nat.zero_le _, hcl0, hcv0, fun _ _ _ h => absurd h (Nat.not_lt_zero _)⟩
  ·
    exact rfl
  ·
    repeat' first | exact trivial | exact True.intro | refine ⟨rfl, ?_⟩
  ·
    repeat' first | exact trivial | exact True.intro | refine ⟨rfl, ?_⟩
  rintro ⟨i, q, cs⟩ ⟨hi, hcl, hcv, hqk⟩
  dsimp only at hi hcl hcv hqk ⊢
  refine doC_seq ?_
  refine doC_seq ?_
  refine doC_region ?_
  refine doL_v (opV_move rfl) rfl rfl rfl ?_
  refine doL_v (opV_move rfl) rfl rfl rfl ?_
  refine doL_v (opV_len_slice sl95 rfl) rfl rfl rfl ?_
  refine doL_v (opV_lss rfl rfl) rfl rfl rfl ?_
  refine doL_nil ?_
  refine post_then ?_
  refine doC_cond rfl (fun hc23 => ?_) (fun hc23 => ?_)
  ·
    have h2 : i < nJ l 0 := by have := of_decide_eq_true hc23; omega
    obtain ⟨jj, hjk⟩ : ∃ jj, (jsOf l 0 (nJ l 0)).1[i]? = some jj := ⟨_, List.getElem?_eq_getElem (by omega)⟩
    have hj : ((jsOf l 0 (nJ l 0)).1.map jc)[i]? = some (jc jj) := by rw [List.getElem?_map, hjk]; rfl
    obtain ⟨xx, hxk⟩ : ∃ x, cs[i]? = some x := ⟨_, List.getElem?_eq_getElem (by omega)⟩
    have hx : (cs.map ic)[i]? = some (ic xx) := by rw [List.getElem?_map, hxk]; rfl
    refine doC_skip ?_
    refine post_then ?_
    refine doC_seq ?_
    refine doC_block ?_
    refine doC_seq ?_
    refine doC_region ?_
    refine doL_v (opV_fieldAddr fa78_0 rfl) rfl rfl rfl ?_
    refine doL_v (opV_fieldAddr fa74_0 rfl) rfl rfl rfl ?_
    refine doL_v (opV_load1 5 ty71 rfl rfl rfl) rfl rfl rfl ?_
    refine doL_v (opV_move rfl) rfl rfl rfl ?_
    refine doL_v (opV_indexS (e := 70) ((holds_r (id := 13) rfl).imp fun _ h => h.1.1) (by kernel_rfl) rfl rfl rfl hj (by omega)) rfl rfl rfl ?_
    refine doL_v (opV_fieldS ((holds_r (id := 13) rfl).imp fun _ h => h.1.1) hj fa70_1 rfl) rfl rfl rfl ?_
    refine doL_v (opV_loadS1 i 1 ((holds_r (id := 13) rfl).imp fun _ h => h.1.1) hj ty3 rfl rfl) rfl rfl rfl ?_
    refine doL_v (opV_lss rfl rfl) rfl rfl rfl ?_
    refine doL_nil ?_
    refine post_then ?_
    refine doC_cond rfl (fun hc33 => ?_) (fun hc33 => ?_)
    ·
      refine doC_region ?_
      refine doL_v (opV_move rfl) rfl rfl rfl ?_
      refine doL_v (opV_move rfl) rfl rfl rfl ?_
      refine doL_v (opV_move rfl) rfl rfl rfl ?_
      refine doL_srcB (F := vI) 15 ho rfl en28 rfl (fun w' h => srcSigned _ (by first | omega | assumption | (unfold In64; omega) | decide) w' h) rfl rfl rfl ?_; intro r37 hr37
      have br37 := srcS_b hr37 (by first | decide | omega)
      refine doL_v (opV_mul rfl rfl (i64_in (by omega))) rfl rfl rfl ?_
      refine doL_v (opV_quo rfl rfl (by first | decide | omega) (quart_val (by omega) (by omega))) rfl rfl rfl ?_
      refine doL_v (opV_indexS (e := 2) ((holds_r (id := 19) rfl).imp fun _ h => ic_slc hcl h) (by kernel_rfl) rfl rfl rfl hx (by omega)) rfl rfl rfl ?_
      refine doL_storeOwn (rows := cs.map ic) (vs := ic (16384 * r37)) (j := i) 19 ty2 (by rw [List.length_map, hcl]; rfl) (ic_len cs) rfl rfl (by rw [List.length_map]; omega) rfl rfl rfl rfl rfl ?_; intro R40 hR40
      obtain rfl := Option.some.inj hR40
      rw [List.length_map, hcl, icC_set]
      refine doL_nil ?_
      refine post_block_normal ?_
      refine post_then ?_
      refine doC_region ?_
      refine doL_v (opV_move rfl) rfl rfl rfl ?_
      refine doL_v (opV_add rfl rfl (inc_nat (by omega))) rfl rfl rfl ?_
      refine doL_v (opV_assign rfl) rfl rfl rfl ?_
      refine doL_nil ?_
      refine post_again (i + 1, q + 1, cs.set i (16384 * r37)) ⟨by show i + 1 ≤ _; omega, by simpa using hcl, set_b hcv (by omega) (by omega), qok_set hqk (by omega) (by omega) (by omega)⟩ (by show nJ l 0 - (i + 1) < nJ l 0 - i; omega) rfl ?_ ?_ rfl
      repeat' first | exact trivial | exact True.intro | refine ⟨rfl, ?_⟩
    ·
      refine doC_skip ?_
      refine post_block_normal ?_
      refine post_then ?_
      refine doC_region ?_
      refine doL_v (opV_move rfl) rfl rfl rfl ?_
      refine doL_v (opV_add rfl rfl (inc_nat (by omega))) rfl rfl rfl ?_
      refine doL_v (opV_assign rfl) rfl rfl rfl ?_
      refine doL_nil ?_
      refine post_again (i + 1, q, cs) ⟨by show i + 1 ≤ _; omega, hcl, hcv, qok_skip hqk hjk (of_decide_eq_false hc33)⟩ (by show nJ l 0 - (i + 1) < nJ l 0 - i; omega) rfl ?_ ?_ rfl
      repeat' first | exact trivial | exact True.intro | refine ⟨rfl, ?_⟩
  ·
    obtain rfl : i = nJ l 0 := by have := of_decide_eq_false hc23; omega
    refine doC_exit ?_
    refine post_then_exit ?_
    refine post_then_exit ?_
    refine post_block_exit ?_
    refine post_then ?_
    refine doC_seq ?_
    refine doC_drawn 4 mo (by kernel_rfl) ?_
    simp only [List.take_succ_cons, List.take_zero, List.drop_succ_cons, List.drop_zero]
    refine doG_v (opV_fieldAddr fa78_0 rfl) rfl rfl rfl ?_
    refine doG_v (opV_loadA 5 ty74 rfl rfl rfl) rfl rfl rfl ?_
    refine doG_v (opV_move rfl) rfl rfl rfl ?_
    refine doG_told en72 rfl (fun w' k => rBox ac cc (nJ l 0) cs (by omega) hcl hcv w' (ic_slc hcl ((holds_r (id := 19) rfl) _ _ k))) rfl rfl rfl ?_
    refine doG_nil ?_
    refine tail_tell 44 rfl rfl rfl ?_; intro x44 D44 _
    refine tail_nil ?_
    refine doL_told 45 en70 rfl (fun w' k => madeLinks w' (by simp [pts1, hcl]) (pts1_valid hcv) (((holds_r (id := 13) rfl).imp fun _ h => h.1.1) _ _ k) (((holds_r (id := 13) rfl).imp fun _ h => h.1.2) _ _ k) ((holds_r (id := 44) rfl) _ _ k)) rfl rfl ?_; intro x45 Dx45 _
    refine doL_v (opV_assign rfl) rfl rfl rfl ?_
    refine doL_nil ?_
    refine post_then ?_
    refine doC_seq ?_
    refine doC_seq ?_
    refine doC_region ?_
    refine doL_v (opV_assign rfl) rfl rfl rfl ?_
    refine doL_nil ?_
    refine post_then ?_
    refine doC_block ?_
    refine doC_loopK [7, 9] [] (α := Nat) (fun x => nJ l 0 - x) (fun x => x ≤ nJ l 0) (fun _ => _) (fun x => [(10, .int .i64 (x : Int))]) (fun _ => []) 0 rfl rfl ?_ rfl ?_ ?_ rfl ?_
    ·
      exact Nat.zero_le _
    ·
      repeat' first | exact trivial | exact True.intro | refine ⟨rfl, ?_⟩
    ·
      repeat' first | exact trivial | exact True.intro | refine ⟨rfl, ?_⟩
    rintro i hi
    try dsimp only at hi ⊢
    refine doC_seq ?_
    refine doC_seq ?_
    refine doC_region ?_
    refine doL_v (opV_move rfl) rfl rfl rfl ?_
    refine doL_v (opV_move rfl) rfl rfl rfl ?_
    refine doL_v (opV_len_slice sl92 rfl) rfl rfl rfl ?_
    refine doL_v (opV_lss rfl rfl) rfl rfl rfl ?_
    refine doL_nil ?_
    refine post_then ?_
    refine doC_cond rfl (fun hc49 => ?_) (fun hc49 => ?_)
    ·
      have h2 : i < nJ l 0 := by have := of_decide_eq_true hc49; omega
      obtain ⟨pp, hpp⟩ : ∃ pp, (lks (jsOf l 0 (nJ l 0)).1 (pts1 cs) (nJ l 0))[i]? = some pp := ⟨_, List.getElem?_eq_getElem (by rw [lks_len _ (by omega) (by simp [pts1, hcl])]; omega)⟩
      have hpp2 : ((lks (jsOf l 0 (nJ l 0)).1 (pts1 cs) (nJ l 0)).map pc)[i]? = some (pc pp) := by rw [List.getElem?_map, hpp]; rfl
      have hE := ex_lks (nJ l 0) hqk pp (List.mem_of_getElem? hpp)
      obtain ⟨⟨⟨⟨e11, _⟩, ⟨e12, _⟩, ⟨e13, _⟩⟩, ⟨⟨e21, _⟩, ⟨e22, _⟩, ⟨e23, _⟩⟩, ⟨⟨e31, _⟩, ⟨e32, _⟩, ⟨e33, _⟩⟩⟩, et1, et2, et3⟩ := hE
      refine doC_skip ?_
      refine post_then ?_
      refine doC_seq ?_
      refine doC_block ?_
      refine doC_seq ?_
      refine doC_region ?_
      refine doL_v (opV_assign rfl) rfl rfl rfl ?_
      refine doL_nil ?_
      refine post_then ?_
      refine doC_block ?_
      refine doC_rounds 4 ?_
      refine doR_succ ?_
      refine doC_seq ?_
      refine doC_seq ?_
      refine doC_region ?_
      refine doL_v (opV_move rfl) rfl rfl rfl ?_
      refine doL_v (opV_lss rfl rfl) rfl rfl rfl ?_
      refine doL_nil ?_
      refine post_then ?_
      refine doC_cond_t rfl (by decide) ?_
      refine doC_skip ?_
      refine post_then ?_
      refine doC_seq ?_
      refine doC_block ?_
      refine doC_seq ?_
      refine doC_keep (ks := [7, 9, 10, 11]) rfl ?_
      refine doC_all mo (by kernel_rfl) ?_
      refine doG_v (opV_move rfl) rfl rfl rfl ?_
      refine doG_v (opV_move rfl) rfl rfl rfl ?_
      refine doG_v (opV_move rfl) rfl rfl rfl ?_
      refine doG_v (opV_indexS (e := 63) (holds_r (id := 45) rfl) (by kernel_rfl) rfl rfl rfl hpp2 h2) rfl rfl rfl ?_
      refine doG_v (opV_fieldAddr fa63_1 rfl) rfl rfl rfl ?_
      refine doG_v (opV_indexAddr ar34 rfl rfl (by first | decide | omega) (by first | decide | omega)) rfl rfl rfl ?_
      refine doG_v (opV_fieldAddr fa23_0 rfl) rfl rfl rfl ?_
      refine doG_v (opV_loadS1 i 18 (holds_r (id := 45) rfl) hpp2 ty2 rfl rfl) rfl rfl rfl ?_
      refine doG_v (opV_move rfl) rfl rfl rfl ?_
      refine doG_v (opV_move rfl) rfl rfl rfl ?_
      refine doG_v (opV_move rfl) rfl rfl rfl ?_
      refine doG_v (opV_indexS (e := 63) (holds_r (id := 45) rfl) (by kernel_rfl) rfl rfl rfl hpp2 h2) rfl rfl rfl ?_
      refine doG_v (opV_fieldAddr fa63_1 rfl) rfl rfl rfl ?_
      refine doG_v (opV_indexAddr ar34 rfl rfl (by first | decide | omega) (by first | decide | omega)) rfl rfl rfl ?_
      refine doG_v (opV_fieldAddr fa23_1 rfl) rfl rfl rfl ?_
      refine doG_v (opV_loadS1 i 19 (holds_r (id := 45) rfl) hpp2 ty2 rfl rfl) rfl rfl rfl ?_
      refine doG_vg (F := vB) (opV_neq rfl rfl) rfl rfl rfl ?_; intro r72 hr72
      obtain rfl : r72 = false := hr72.trans (nq_of et1)
      refine doG_v (opV_move rfl) rfl rfl rfl ?_
      refine doG_v (opV_move rfl) rfl rfl rfl ?_
      refine doG_v (opV_move rfl) rfl rfl rfl ?_
      refine doG_v (opV_move rfl) rfl rfl rfl ?_
      refine doG_v (opV_indexS (e := 63) (holds_r (id := 45) rfl) (by kernel_rfl) rfl rfl rfl hpp2 h2) rfl rfl rfl ?_
      refine doG_v (opV_fieldAddr fa63_0 rfl) rfl rfl rfl ?_
      refine doG_v (opV_indexAddr ar28 rfl rfl (by first | decide | omega) (by first | decide | omega)) rfl rfl rfl ?_
      refine doG_v (opV_indexAddr ar26 rfl rfl (by first | decide | omega) (by first | decide | omega)) rfl rfl rfl ?_
      refine doG_v (opV_fieldAddr fa23_0 rfl) rfl rfl rfl ?_
      refine doG_v (opV_loadS1 i 0 (holds_r (id := 45) rfl) hpp2 ty2 rfl rfl) rfl rfl rfl ?_
      refine doG_v (opV_move rfl) rfl rfl rfl ?_
      refine doG_v (opV_move rfl) rfl rfl rfl ?_
      refine doG_v (opV_move rfl) rfl rfl rfl ?_
      refine doG_v (opV_indexS (e := 63) (holds_r (id := 45) rfl) (by kernel_rfl) rfl rfl rfl hpp2 h2) rfl rfl rfl ?_
      refine doG_v (opV_fieldAddr fa63_0 rfl) rfl rfl rfl ?_
      refine doG_v (opV_indexAddr ar28 rfl rfl (by first | decide | omega) (by first | decide | omega)) rfl rfl rfl ?_
      refine doG_v (opV_indexAddr ar26 rfl rfl (by first | decide | omega) (by first | decide | omega)) rfl rfl rfl ?_
      refine doG_v (opV_fieldAddr fa23_1 rfl) rfl rfl rfl ?_
      refine doG_v (opV_loadS1 i 1 (holds_r (id := 45) rfl) hpp2 ty2 rfl rfl) rfl rfl rfl ?_
      refine doG_vg (F := vB) (opV_neq rfl rfl) rfl rfl rfl ?_; intro r92 hr92
      obtain rfl : r92 = false := hr92.trans (nq_of e11)
      refine doG_v (opV_pick_f rfl rfl rfl rfl) rfl rfl rfl ?_
      refine doG_v (opV_move rfl) rfl rfl rfl ?_
      refine doG_v (opV_move rfl) rfl rfl rfl ?_
      refine doG_v (opV_move rfl) rfl rfl rfl ?_
      refine doG_v (opV_move rfl) rfl rfl rfl ?_
      refine doG_v (opV_indexS (e := 63) (holds_r (id := 45) rfl) (by kernel_rfl) rfl rfl rfl hpp2 h2) rfl rfl rfl ?_
      refine doG_v (opV_fieldAddr fa63_0 rfl) rfl rfl rfl ?_
      refine doG_v (opV_indexAddr ar28 rfl rfl (by first | decide | omega) (by first | decide | omega)) rfl rfl rfl ?_
      refine doG_v (opV_indexAddr ar26 rfl rfl (by first | decide | omega) (by first | decide | omega)) rfl rfl rfl ?_
      refine doG_v (opV_fieldAddr fa23_0 rfl) rfl rfl rfl ?_
      refine doG_v (opV_loadS1 i 2 (holds_r (id := 45) rfl) hpp2 ty2 rfl rfl) rfl rfl rfl ?_
      refine doG_v (opV_move rfl) rfl rfl rfl ?_
      refine doG_v (opV_move rfl) rfl rfl rfl ?_
      refine doG_v (opV_move rfl) rfl rfl rfl ?_
      refine doG_v (opV_indexS (e := 63) (holds_r (id := 45) rfl) (by kernel_rfl) rfl rfl rfl hpp2 h2) rfl rfl rfl ?_
      refine doG_v (opV_fieldAddr fa63_0 rfl) rfl rfl rfl ?_
      refine doG_v (opV_indexAddr ar28 rfl rfl (by first | decide | omega) (by first | decide | omega)) rfl rfl rfl ?_
      refine doG_v (opV_indexAddr ar26 rfl rfl (by first | decide | omega) (by first | decide | omega)) rfl rfl rfl ?_
      refine doG_v (opV_fieldAddr fa23_1 rfl) rfl rfl rfl ?_
      refine doG_v (opV_loadS1 i 3 (holds_r (id := 45) rfl) hpp2 ty2 rfl rfl) rfl rfl rfl ?_
      refine doG_vg (F := vB) (opV_neq rfl rfl) rfl rfl rfl ?_; intro r113 hr113
      obtain rfl : r113 = false := hr113.trans (nq_of e12)
      refine doG_v (opV_pick_f rfl rfl rfl rfl) rfl rfl rfl ?_
      refine doG_v (opV_move rfl) rfl rfl rfl ?_
      refine doG_v (opV_move rfl) rfl rfl rfl ?_
      refine doG_v (opV_move rfl) rfl rfl rfl ?_
      refine doG_v (opV_move rfl) rfl rfl rfl ?_
      refine doG_v (opV_indexS (e := 63) (holds_r (id := 45) rfl) (by kernel_rfl) rfl rfl rfl hpp2 h2) rfl rfl rfl ?_
      refine doG_v (opV_fieldAddr fa63_0 rfl) rfl rfl rfl ?_
      refine doG_v (opV_indexAddr ar28 rfl rfl (by first | decide | omega) (by first | decide | omega)) rfl rfl rfl ?_
      refine doG_v (opV_indexAddr ar26 rfl rfl (by first | decide | omega) (by first | decide | omega)) rfl rfl rfl ?_
      refine doG_v (opV_fieldAddr fa23_0 rfl) rfl rfl rfl ?_
      refine doG_v (opV_loadS1 i 4 (holds_r (id := 45) rfl) hpp2 ty2 rfl rfl) rfl rfl rfl ?_
      refine doG_v (opV_move rfl) rfl rfl rfl ?_
      refine doG_v (opV_move rfl) rfl rfl rfl ?_
      refine doG_v (opV_move rfl) rfl rfl rfl ?_
      refine doG_v (opV_indexS (e := 63) (holds_r (id := 45) rfl) (by kernel_rfl) rfl rfl rfl hpp2 h2) rfl rfl rfl ?_
      refine doG_v (opV_fieldAddr fa63_0 rfl) rfl rfl rfl ?_
      refine doG_v (opV_indexAddr ar28 rfl rfl (by first | decide | omega) (by first | decide | omega)) rfl rfl rfl ?_
      refine doG_v (opV_indexAddr ar26 rfl rfl (by first | decide | omega) (by first | decide | omega)) rfl rfl rfl ?_
      refine doG_v (opV_fieldAddr fa23_1 rfl) rfl rfl rfl ?_
      refine doG_v (opV_loadS1 i 5 (holds_r (id := 45) rfl) hpp2 ty2 rfl rfl) rfl rfl rfl ?_
      refine doG_v (opV_neq rfl rfl) rfl rfl rfl ?_
      refine doG_v (opV_pick_f rfl rfl rfl rfl) rfl rfl rfl ?_
      refine doG_nil ?_
      refine post_then ?_
      refine doC_cond_f rfl (nq_of e13) ?_
      refine doC_skip ?_
      refine post_block_normal ?_
      refine post_then ?_
      refine doC_region ?_
      refine doL_v (opV_move rfl) rfl rfl rfl ?_
      refine doL_v (opV_add rfl rfl (by first | exact i64_in ⟨by omega, by omega⟩ | rfl)) rfl rfl rfl ?_
      refine doL_v (opV_assign rfl) rfl rfl rfl ?_
      refine doL_nil ?_
      refine post_rounds ?_
      refine doR_succ ?_
      refine doC_seq ?_
      refine doC_seq ?_
      refine doC_region ?_
      refine doL_v (opV_move rfl) rfl rfl rfl ?_
      refine doL_v (opV_lss rfl rfl) rfl rfl rfl ?_
      refine doL_nil ?_
      refine post_then ?_
      refine doC_cond_t rfl (by decide) ?_
      refine doC_skip ?_
      refine post_then ?_
      refine doC_seq ?_
      refine doC_block ?_
      refine doC_seq ?_
      refine doC_keep (ks := [7, 9, 10, 11]) rfl ?_
      refine doC_all mo (by kernel_rfl) ?_
      refine doG_v (opV_move rfl) rfl rfl rfl ?_
      refine doG_v (opV_move rfl) rfl rfl rfl ?_
      refine doG_v (opV_move rfl) rfl rfl rfl ?_
      refine doG_v (opV_indexS (e := 63) (holds_r (id := 45) rfl) (by kernel_rfl) rfl rfl rfl hpp2 h2) rfl rfl rfl ?_
      refine doG_v (opV_fieldAddr fa63_1 rfl) rfl rfl rfl ?_
      refine doG_v (opV_indexAddr ar34 rfl rfl (by first | decide | omega) (by first | decide | omega)) rfl rfl rfl ?_
      refine doG_v (opV_fieldAddr fa23_0 rfl) rfl rfl rfl ?_
      refine doG_v (opV_loadS1 i 20 (holds_r (id := 45) rfl) hpp2 ty2 rfl rfl) rfl rfl rfl ?_
      refine doG_v (opV_move rfl) rfl rfl rfl ?_
      refine doG_v (opV_move rfl) rfl rfl rfl ?_
      refine doG_v (opV_move rfl) rfl rfl rfl ?_
      refine doG_v (opV_indexS (e := 63) (holds_r (id := 45) rfl) (by kernel_rfl) rfl rfl rfl hpp2 h2) rfl rfl rfl ?_
      refine doG_v (opV_fieldAddr fa63_1 rfl) rfl rfl rfl ?_
      refine doG_v (opV_indexAddr ar34 rfl rfl (by first | decide | omega) (by first | decide | omega)) rfl rfl rfl ?_
      refine doG_v (opV_fieldAddr fa23_1 rfl) rfl rfl rfl ?_
      refine doG_v (opV_loadS1 i 21 (holds_r (id := 45) rfl) hpp2 ty2 rfl rfl) rfl rfl rfl ?_
      refine doG_vg (F := vB) (opV_neq rfl rfl) rfl rfl rfl ?_; intro r72_2 hr72_2
      obtain rfl : r72_2 = false := hr72_2.trans (nq_of et2)
      refine doG_v (opV_move rfl) rfl rfl rfl ?_
      refine doG_v (opV_move rfl) rfl rfl rfl ?_
      refine doG_v (opV_move rfl) rfl rfl rfl ?_
      refine doG_v (opV_move rfl) rfl rfl rfl ?_
      refine doG_v (opV_indexS (e := 63) (holds_r (id := 45) rfl) (by kernel_rfl) rfl rfl rfl hpp2 h2) rfl rfl rfl ?_
      refine doG_v (opV_fieldAddr fa63_0 rfl) rfl rfl rfl ?_
      refine doG_v (opV_indexAddr ar28 rfl rfl (by first | decide | omega) (by first | decide | omega)) rfl rfl rfl ?_
      refine doG_v (opV_indexAddr ar26 rfl rfl (by first | decide | omega) (by first | decide | omega)) rfl rfl rfl ?_
      refine doG_v (opV_fieldAddr fa23_0 rfl) rfl rfl rfl ?_
      refine doG_v (opV_loadS1 i 6 (holds_r (id := 45) rfl) hpp2 ty2 rfl rfl) rfl rfl rfl ?_
      refine doG_v (opV_move rfl) rfl rfl rfl ?_
      refine doG_v (opV_move rfl) rfl rfl rfl ?_
      refine doG_v (opV_move rfl) rfl rfl rfl ?_
      refine doG_v (opV_indexS (e := 63) (holds_r (id := 45) rfl) (by kernel_rfl) rfl rfl rfl hpp2 h2) rfl rfl rfl ?_
      refine doG_v (opV_fieldAddr fa63_0 rfl) rfl rfl rfl ?_
      refine doG_v (opV_indexAddr ar28 rfl rfl (by first | decide | omega) (by first | decide | omega)) rfl rfl rfl ?_
      refine doG_v (opV_indexAddr ar26 rfl rfl (by first | decide | omega) (by first | decide | omega)) rfl rfl rfl ?_
      refine doG_v (opV_fieldAddr fa23_1 rfl) rfl rfl rfl ?_
      refine doG_v (opV_loadS1 i 7 (holds_r (id := 45) rfl) hpp2 ty2 rfl rfl) rfl rfl rfl ?_
      refine doG_vg (F := vB) (opV_neq rfl rfl) rfl rfl rfl ?_; intro r92_2 hr92_2
      obtain rfl : r92_2 = false := hr92_2.trans (nq_of e21)
      refine doG_v (opV_pick_f rfl rfl rfl rfl) rfl rfl rfl ?_
      refine doG_v (opV_move rfl) rfl rfl rfl ?_
      refine doG_v (opV_move rfl) rfl rfl rfl ?_
      refine doG_v (opV_move rfl) rfl rfl rfl ?_
      refine doG_v (opV_move rfl) rfl rfl rfl ?_
      refine doG_v (opV_indexS (e := 63) (holds_r (id := 45) rfl) (by kernel_rfl) rfl rfl rfl hpp2 h2) rfl rfl rfl ?_
      refine doG_v (opV_fieldAddr fa63_0 rfl) rfl rfl rfl ?_
      refine doG_v (opV_indexAddr ar28 rfl rfl (by first | decide | omega) (by first | decide | omega)) rfl rfl rfl ?_
      refine doG_v (opV_indexAddr ar26 rfl rfl (by first | decide | omega) (by first | decide | omega)) rfl rfl rfl ?_
      refine doG_v (opV_fieldAddr fa23_0 rfl) rfl rfl rfl ?_
      refine doG_v (opV_loadS1 i 8 (holds_r (id := 45) rfl) hpp2 ty2 rfl rfl) rfl rfl rfl ?_
      refine doG_v (opV_move rfl) rfl rfl rfl ?_
      refine doG_v (opV_move rfl) rfl rfl rfl ?_
      refine doG_v (opV_move rfl) rfl rfl rfl ?_
      refine doG_v (opV_indexS (e := 63) (holds_r (id := 45) rfl) (by kernel_rfl) rfl rfl rfl hpp2 h2) rfl rfl rfl ?_
      refine doG_v (opV_fieldAddr fa63_0 rfl) rfl rfl rfl ?_
      refine doG_v (opV_indexAddr ar28 rfl rfl (by first | decide | omega) (by first | decide | omega)) rfl rfl rfl ?_
      refine doG_v (opV_indexAddr ar26 rfl rfl (by first | decide | omega) (by first | decide | omega)) rfl rfl rfl ?_
      refine doG_v (opV_fieldAddr fa23_1 rfl) rfl rfl rfl ?_
      refine doG_v (opV_loadS1 i 9 (holds_r (id := 45) rfl) hpp2 ty2 rfl rfl) rfl rfl rfl ?_
      refine doG_vg (F := vB) (opV_neq rfl rfl) rfl rfl rfl ?_; intro r113_2 hr113_2
      obtain rfl : r113_2 = false := hr113_2.trans (nq_of e22)
      refine doG_v (opV_pick_f rfl rfl rfl rfl) rfl rfl rfl ?_
      refine doG_v (opV_move rfl) rfl rfl rfl ?_
      refine doG_v (opV_move rfl) rfl rfl rfl ?_
      refine doG_v (opV_move rfl) rfl rfl rfl ?_
      refine doG_v (opV_move rfl) rfl rfl rfl ?_
      refine doG_v (opV_indexS (e := 63) (holds_r (id := 45) rfl) (by kernel_rfl) rfl rfl rfl hpp2 h2) rfl rfl rfl ?_
      refine doG_v (opV_fieldAddr fa63_0 rfl) rfl rfl rfl ?_
      refine doG_v (opV_indexAddr ar28 rfl rfl (by first | decide | omega) (by first | decide | omega)) rfl rfl rfl ?_
      refine doG_v (opV_indexAddr ar26 rfl rfl (by first | decide | omega) (by first | decide | omega)) rfl rfl rfl ?_
      refine doG_v (opV_fieldAddr fa23_0 rfl) rfl rfl rfl ?_
      refine doG_v (opV_loadS1 i 10 (holds_r (id := 45) rfl) hpp2 ty2 rfl rfl) rfl rfl rfl ?_
      refine doG_v (opV_move rfl) rfl rfl rfl ?_
      refine doG_v (opV_move rfl) rfl rfl rfl ?_
      refine doG_v (opV_move rfl) rfl rfl rfl ?_
      refine doG_v (opV_indexS (e := 63) (holds_r (id := 45) rfl) (by kernel_rfl) rfl rfl rfl hpp2 h2) rfl rfl rfl ?_
      refine doG_v (opV_fieldAddr fa63_0 rfl) rfl rfl rfl ?_
      refine doG_v (opV_indexAddr ar28 rfl rfl (by first | decide | omega) (by first | decide | omega)) rfl rfl rfl ?_
      refine doG_v (opV_indexAddr ar26 rfl rfl (by first | decide | omega) (by first | decide | omega)) rfl rfl rfl ?_
      refine doG_v (opV_fieldAddr fa23_1 rfl) rfl rfl rfl ?_
      refine doG_v (opV_loadS1 i 11 (holds_r (id := 45) rfl) hpp2 ty2 rfl rfl) rfl rfl rfl ?_
      refine doG_v (opV_neq rfl rfl) rfl rfl rfl ?_
      refine doG_v (opV_pick_f rfl rfl rfl rfl) rfl rfl rfl ?_
      refine doG_nil ?_
      refine post_then ?_
      refine doC_cond_f rfl (nq_of e23) ?_
      refine doC_skip ?_
      refine post_block_normal ?_
      refine post_then ?_
      refine doC_region ?_
      refine doL_v (opV_move rfl) rfl rfl rfl ?_
      refine doL_v (opV_add rfl rfl (by first | exact i64_in ⟨by omega, by omega⟩ | rfl)) rfl rfl rfl ?_
      refine doL_v (opV_assign rfl) rfl rfl rfl ?_
      refine doL_nil ?_
      refine post_rounds ?_
      refine doR_succ ?_
      refine doC_seq ?_
      refine doC_seq ?_
      refine doC_region ?_
      refine doL_v (opV_move rfl) rfl rfl rfl ?_
      refine doL_v (opV_lss rfl rfl) rfl rfl rfl ?_
      refine doL_nil ?_
      refine post_then ?_
      refine doC_cond_t rfl (by decide) ?_
      refine doC_skip ?_
      refine post_then ?_
      refine doC_seq ?_
      refine doC_block ?_
      refine doC_seq ?_
      refine doC_keep (ks := [7, 9, 10, 11]) rfl ?_
      refine doC_all mo (by kernel_rfl) ?_
      refine doG_v (opV_move rfl) rfl rfl rfl ?_
      refine doG_v (opV_move rfl) rfl rfl rfl ?_
      refine doG_v (opV_move rfl) rfl rfl rfl ?_
      refine doG_v (opV_indexS (e := 63) (holds_r (id := 45) rfl) (by kernel_rfl) rfl rfl rfl hpp2 h2) rfl rfl rfl ?_
      refine doG_v (opV_fieldAddr fa63_1 rfl) rfl rfl rfl ?_
      refine doG_v (opV_indexAddr ar34 rfl rfl (by first | decide | omega) (by first | decide | omega)) rfl rfl rfl ?_
      refine doG_v (opV_fieldAddr fa23_0 rfl) rfl rfl rfl ?_
      refine doG_v (opV_loadS1 i 22 (holds_r (id := 45) rfl) hpp2 ty2 rfl rfl) rfl rfl rfl ?_
      refine doG_v (opV_move rfl) rfl rfl rfl ?_
      refine doG_v (opV_move rfl) rfl rfl rfl ?_
      refine doG_v (opV_move rfl) rfl rfl rfl ?_
      refine doG_v (opV_indexS (e := 63) (holds_r (id := 45) rfl) (by kernel_rfl) rfl rfl rfl hpp2 h2) rfl rfl rfl ?_
      refine doG_v (opV_fieldAddr fa63_1 rfl) rfl rfl rfl ?_
      refine doG_v (opV_indexAddr ar34 rfl rfl (by first | decide | omega) (by first | decide | omega)) rfl rfl rfl ?_
      refine doG_v (opV_fieldAddr fa23_1 rfl) rfl rfl rfl ?_
      refine doG_v (opV_loadS1 i 23 (holds_r (id := 45) rfl) hpp2 ty2 rfl rfl) rfl rfl rfl ?_
      refine doG_vg (F := vB) (opV_neq rfl rfl) rfl rfl rfl ?_; intro r72_3 hr72_3
      obtain rfl : r72_3 = false := hr72_3.trans (nq_of et3)
      refine doG_v (opV_move rfl) rfl rfl rfl ?_
      refine doG_v (opV_move rfl) rfl rfl rfl ?_
      refine doG_v (opV_move rfl) rfl rfl rfl ?_
      refine doG_v (opV_move rfl) rfl rfl rfl ?_
      refine doG_v (opV_indexS (e := 63) (holds_r (id := 45) rfl) (by kernel_rfl) rfl rfl rfl hpp2 h2) rfl rfl rfl ?_
      refine doG_v (opV_fieldAddr fa63_0 rfl) rfl rfl rfl ?_
      refine doG_v (opV_indexAddr ar28 rfl rfl (by first | decide | omega) (by first | decide | omega)) rfl rfl rfl ?_
      refine doG_v (opV_indexAddr ar26 rfl rfl (by first | decide | omega) (by first | decide | omega)) rfl rfl rfl ?_
      refine doG_v (opV_fieldAddr fa23_0 rfl) rfl rfl rfl ?_
      refine doG_v (opV_loadS1 i 12 (holds_r (id := 45) rfl) hpp2 ty2 rfl rfl) rfl rfl rfl ?_
      refine doG_v (opV_move rfl) rfl rfl rfl ?_
      refine doG_v (opV_move rfl) rfl rfl rfl ?_
      refine doG_v (opV_move rfl) rfl rfl rfl ?_
      refine doG_v (opV_indexS (e := 63) (holds_r (id := 45) rfl) (by kernel_rfl) rfl rfl rfl hpp2 h2) rfl rfl rfl ?_
      refine doG_v (opV_fieldAddr fa63_0 rfl) rfl rfl rfl ?_
      refine doG_v (opV_indexAddr ar28 rfl rfl (by first | decide | omega) (by first | decide | omega)) rfl rfl rfl ?_
      refine doG_v (opV_indexAddr ar26 rfl rfl (by first | decide | omega) (by first | decide | omega)) rfl rfl rfl ?_
      refine doG_v (opV_fieldAddr fa23_1 rfl) rfl rfl rfl ?_
      refine doG_v (opV_loadS1 i 13 (holds_r (id := 45) rfl) hpp2 ty2 rfl rfl) rfl rfl rfl ?_
      refine doG_vg (F := vB) (opV_neq rfl rfl) rfl rfl rfl ?_; intro r92_3 hr92_3
      obtain rfl : r92_3 = false := hr92_3.trans (nq_of e31)
      refine doG_v (opV_pick_f rfl rfl rfl rfl) rfl rfl rfl ?_
      refine doG_v (opV_move rfl) rfl rfl rfl ?_
      refine doG_v (opV_move rfl) rfl rfl rfl ?_
      refine doG_v (opV_move rfl) rfl rfl rfl ?_
      refine doG_v (opV_move rfl) rfl rfl rfl ?_
      refine doG_v (opV_indexS (e := 63) (holds_r (id := 45) rfl) (by kernel_rfl) rfl rfl rfl hpp2 h2) rfl rfl rfl ?_
      refine doG_v (opV_fieldAddr fa63_0 rfl) rfl rfl rfl ?_
      refine doG_v (opV_indexAddr ar28 rfl rfl (by first | decide | omega) (by first | decide | omega)) rfl rfl rfl ?_
      refine doG_v (opV_indexAddr ar26 rfl rfl (by first | decide | omega) (by first | decide | omega)) rfl rfl rfl ?_
      refine doG_v (opV_fieldAddr fa23_0 rfl) rfl rfl rfl ?_
      refine doG_v (opV_loadS1 i 14 (holds_r (id := 45) rfl) hpp2 ty2 rfl rfl) rfl rfl rfl ?_
      refine doG_v (opV_move rfl) rfl rfl rfl ?_
      refine doG_v (opV_move rfl) rfl rfl rfl ?_
      refine doG_v (opV_move rfl) rfl rfl rfl ?_
      refine doG_v (opV_indexS (e := 63) (holds_r (id := 45) rfl) (by kernel_rfl) rfl rfl rfl hpp2 h2) rfl rfl rfl ?_
      refine doG_v (opV_fieldAddr fa63_0 rfl) rfl rfl rfl ?_
      refine doG_v (opV_indexAddr ar28 rfl rfl (by first | decide | omega) (by first | decide | omega)) rfl rfl rfl ?_
      refine doG_v (opV_indexAddr ar26 rfl rfl (by first | decide | omega) (by first | decide | omega)) rfl rfl rfl ?_
      refine doG_v (opV_fieldAddr fa23_1 rfl) rfl rfl rfl ?_
      refine doG_v (opV_loadS1 i 15 (holds_r (id := 45) rfl) hpp2 ty2 rfl rfl) rfl rfl rfl ?_
      refine doG_vg (F := vB) (opV_neq rfl rfl) rfl rfl rfl ?_; intro r113_3 hr113_3
      obtain rfl : r113_3 = false := hr113_3.trans (nq_of e32)
      refine doG_v (opV_pick_f rfl rfl rfl rfl) rfl rfl rfl ?_
      refine doG_v (opV_move rfl) rfl rfl rfl ?_
      refine doG_v (opV_move rfl) rfl rfl rfl ?_
      refine doG_v (opV_move rfl) rfl rfl rfl ?_
      refine doG_v (opV_move rfl) rfl rfl rfl ?_
      refine doG_v (opV_indexS (e := 63) (holds_r (id := 45) rfl) (by kernel_rfl) rfl rfl rfl hpp2 h2) rfl rfl rfl ?_
      refine doG_v (opV_fieldAddr fa63_0 rfl) rfl rfl rfl ?_
      refine doG_v (opV_indexAddr ar28 rfl rfl (by first | decide | omega) (by first | decide | omega)) rfl rfl rfl ?_
      refine doG_v (opV_indexAddr ar26 rfl rfl (by first | decide | omega) (by first | decide | omega)) rfl rfl rfl ?_
      refine doG_v (opV_fieldAddr fa23_0 rfl) rfl rfl rfl ?_
      refine doG_v (opV_loadS1 i 16 (holds_r (id := 45) rfl) hpp2 ty2 rfl rfl) rfl rfl rfl ?_
      refine doG_v (opV_move rfl) rfl rfl rfl ?_
      refine doG_v (opV_move rfl) rfl rfl rfl ?_
      refine doG_v (opV_move rfl) rfl rfl rfl ?_
      refine doG_v (opV_indexS (e := 63) (holds_r (id := 45) rfl) (by kernel_rfl) rfl rfl rfl hpp2 h2) rfl rfl rfl ?_
      refine doG_v (opV_fieldAddr fa63_0 rfl) rfl rfl rfl ?_
      refine doG_v (opV_indexAddr ar28 rfl rfl (by first | decide | omega) (by first | decide | omega)) rfl rfl rfl ?_
      refine doG_v (opV_indexAddr ar26 rfl rfl (by first | decide | omega) (by first | decide | omega)) rfl rfl rfl ?_
      refine doG_v (opV_fieldAddr fa23_1 rfl) rfl rfl rfl ?_
      refine doG_v (opV_loadS1 i 17 (holds_r (id := 45) rfl) hpp2 ty2 rfl rfl) rfl rfl rfl ?_
      refine doG_v (opV_neq rfl rfl) rfl rfl rfl ?_
      refine doG_v (opV_pick_f rfl rfl rfl rfl) rfl rfl rfl ?_
      refine doG_nil ?_
      refine post_then ?_
      refine doC_cond_f rfl (nq_of e33) ?_
      refine doC_skip ?_
      refine post_block_normal ?_
      refine post_then ?_
      refine doC_region ?_
      refine doL_v (opV_move rfl) rfl rfl rfl ?_
      refine doL_v (opV_add rfl rfl (by first | exact i64_in ⟨by omega, by omega⟩ | rfl)) rfl rfl rfl ?_
      refine doL_v (opV_assign rfl) rfl rfl rfl ?_
      refine doL_nil ?_
      refine post_rounds ?_
      refine doR_succ ?_
      refine doC_seq ?_
      refine doC_seq ?_
      refine doC_region ?_
      refine doL_v (opV_move rfl) rfl rfl rfl ?_
      refine doL_v (opV_lss rfl rfl) rfl rfl rfl ?_
      refine doL_nil ?_
      refine post_then ?_
      refine doC_cond_f rfl (by decide) ?_
      refine doC_exit ?_
      refine post_then_exit ?_
      refine post_then_exit ?_
      refine post_block_exit ?_
      refine post_block_normal ?_
      refine post_then ?_
      refine doC_region ?_
      refine doL_v (opV_move rfl) rfl rfl rfl ?_
      refine doL_v (opV_add rfl rfl (inc_nat (by omega))) rfl rfl rfl ?_
      refine doL_v (opV_assign rfl) rfl rfl rfl ?_
      refine doL_nil ?_
      refine post_again (i + 1) (by show i + 1 ≤ nJ l 0; omega) (by show nJ l 0 - (i + 1) < nJ l 0 - i; omega) rfl ?_ ?_ rfl
      repeat' first | exact trivial | exact True.intro | refine ⟨rfl, ?_⟩
    ·
      refine doC_exit ?_
      refine post_then_exit ?_
      refine post_then_exit ?_
      refine post_block_exit ?_
      refine post_then ?_
      refine doC_seq ?_
      refine doC_region ?_
      refine doL_vg (F := vB) (opV_call en58 rfl (fun w _ => awake11   w)) rfl rfl rfl ?_; intro r136 hr136
      refine doL_v (opV_move rfl) rfl rfl rfl ?_
      refine doL_true 137 rfl (hr136) ?_
      refine doL_v (opV_move rfl) rfl rfl rfl ?_
      refine doL_v (opV_len_slice sl92 rfl) rfl rfl rfl ?_
      refine doL_v (opV_move rfl) rfl rfl rfl ?_
      refine doL_v (opV_len_slice sl95 rfl) rfl rfl rfl ?_
      refine doL_v (opV_eql rfl rfl) rfl rfl rfl ?_
      refine doL_v (opV_pick_t rfl rfl rfl rfl) rfl rfl rfl ?_
      refine doL_v (opV_assign rfl) rfl rfl rfl ?_
      refine doL_nil ?_
      refine post_then ?_
      refine doC_ret ?_
      refine post_rets (rs := [.tmp 4]) rfl (resC (resIs_tmp rfl) (resN)) (congrArg (vB) (?_ : _ = true))
      simp
end Go.Proofs.Ytonampcmhhhffaa

/- Part 12 of the texts behind the last one: rules and contracts. No condition. -/
import Derived.Test.YtnlnbnjnapofmaaGreatMO11
namespace Go.Proofs.YtnlnbnjnapofmaaGreat
open Go.Sx
theorem en131 : Enters Tryz.prog 131 := yW Tryz.func131 (by kernel_rfl) (by kernel_rfl)
theorem en132 : Enters Tryz.prog 132 := yW Tryz.func132 (by kernel_rfl) (by kernel_rfl)
theorem en133 : Enters Tryz.prog 133 := yW Tryz.func133 (by kernel_rfl) (by kernel_rfl)
theorem en134 : Enters Tryz.prog 134 := yW Tryz.func134 (by kernel_rfl) (by kernel_rfl)
theorem fa87_6 : fieldB Tryz.prog 87 6 8 = true := by kernel_rfl
theorem en135 : Enters Tryz.prog 135 := yW Tryz.func135 (by kernel_rfl) (by kernel_rfl)
theorem fa87_7 : fieldB Tryz.prog 87 7 9 = true := by kernel_rfl
theorem fa87_8 : fieldB Tryz.prog 87 8 10 = true := by kernel_rfl
theorem fa87_9 : fieldB Tryz.prog 87 9 11 = true := by kernel_rfl
theorem limK_b (k : Int) : 0 ≤ limK k ∧ limK k ≤ 4194304 := by
  unfold limK; split <;> (try split) <;> omega
theorem cJoint  (aj am : Option Addr) (cj nm cm n i : Nat) (js : List J) (j : J) (c : Nat) (hn : n ≤ 1000) (hjn : js.length = n) (hin : i < n) (hjk : js[i]? = some j) (hne : ∀ (k : Nat), k < i → ∀ (j2 : J), js[k]? = some j2 → (j2.name.toList == j.name.toList) = false) (hsz : j.name.size = 1) (hd : Utf8.decode j.name 0 = (c, 1)) (hc : 97 ≤ c ∧ c ≤ 122) (hw : (j.name.toList == (ByteArray.mk #[119, 111, 114, 108, 100]).toList) = false) (hkd : 0 ≤ j.kind ∧ j.kind ≤ 6) (hpa : -1 ≤ j.parent ∧ j.parent < i) (h0 : -4194304 ≤ j.off.x ∧ j.off.x ≤ 4194304) (h1 : -4194304 ≤ j.off.y ∧ j.off.y ≤ 4194304) (h2 : -4194304 ≤ j.off.z ∧ j.off.z ≤ 4194304) (hlh : j.lo ≤ j.hi ∧ -limK j.kind ≤ j.lo ∧ j.hi ≤ limK j.kind) (hwe : 1 ≤ j.weight ∧ j.weight ≤ 1024) (hsp : 1 ≤ j.speed ∧ j.speed ≤ 1048576) (hac : 1 ≤ j.accel ∧ j.accel ≤ 1048576) (htq : 1 ≤ j.torque ∧ j.torque ≤ 1099511627776) (w : World) (hS : SlcIs 12 aj (js.map jc) w) : Calls Tryz.prog 98 [.agg #[.slice aj n cj, .slice am nm cm], .int .i64 (i : Int)].toArray w (Rets (vI ((0 : Int))) (w)) := by
  refine yQ (n := 91) Tryz.func98 rfl rfl rfl ?_
  refine qJ ?_
  refine qZ ?_
  refine kW 2 rfl rfl rfl rfl ?_; intro b2
  refine qK (qW rfl) rfl rfl rfl ?_
  refine qU ?_
  refine qQ ?_
  refine qJ ?_
  have hj : (js.map jc)[i]? = some (jc j) := by rw [List.getElem?_map, hjk]; rfl
  have hL := limK_b j.kind
  refine qZ ?_
  refine qK (qH fa26_0 rfl) rfl rfl rfl ?_
  refine qK (zJ 2 ty23 rfl rfl rfl) rfl rfl rfl ?_
  refine qK (qY rfl) rfl rfl rfl ?_
  refine qK (opV_indexS (e := 87) (holds_base hS) (by kernel_rfl) rfl rfl rfl hj hin) rfl rfl rfl ?_
  refine qK (opV_loadSA (vs := [.string j.name, .int .i64 j.kind, .int .i64 j.parent, .int .i64 j.off.x, .int .i64 j.off.y, .int .i64 j.off.z, .int .i64 j.lo, .int .i64 j.hi, .int .i64 j.weight, .int .i64 j.speed, .int .i64 j.accel, .int .i64 j.torque]) i 0 (holds_base hS) hj ty87 rfl rfl) rfl rfl rfl ?_
  refine jY 5 ze87 rfl rfl rfl ?_; intro b5
  refine zZ 5 ty87 rfl rfl rfl rfl rfl rfl rfl rfl ?_
  refine qU ?_
  refine qQ ?_
  refine qJ ?_
  refine zK ?_
  refine qJ ?_
  refine qZ ?_
  refine qK (qH fa87_0 rfl) rfl rfl rfl ?_
  refine qK (zJ 5 ty9 rfl rfl rfl) rfl rfl rfl ?_
  refine kJ (F := vB) (zY en131 rfl (fun w _ => tName _ c hsz hd hc hw w)) rfl rfl rfl ?_; intro r15 hr15
  refine qK (opV_not rfl) rfl rfl rfl ?_
  refine qK (qY rfl) rfl rfl rfl ?_
  refine doL_false 17 rfl (by rw [hr15]; rfl) ?_
  refine qK (zQ 2 ty26 rfl rfl rfl) rfl rfl rfl ?_
  refine qK (qH fa87_0 rfl) rfl rfl rfl ?_
  refine qK (zJ 5 ty9 rfl rfl rfl) rfl rfl rfl ?_
  refine kJ (F := vI) (zY en132 rfl (fun w' k => cFind aj am cj nm cm n i js j.name hn hjn hin hne ⟨j, hjk, by simp⟩ w' (slc_grow hS k.grow))) rfl rfl rfl ?_; intro r21 hr21
  refine qK (qY rfl) rfl rfl rfl ?_
  refine qK (opV_neq rfl rfl) rfl rfl rfl ?_
  refine qK (uQ rfl rfl rfl rfl) rfl rfl rfl ?_
  refine qK (qW rfl) rfl rfl rfl ?_
  refine qU ?_
  refine qQ ?_
  refine jV rfl (by rw [hr21]; simp) ?_
  refine qJ ?_
  refine qZ ?_
  refine qK (qH fa87_1 rfl) rfl rfl rfl ?_
  refine qK (zJ 5 ty3 rfl rfl rfl) rfl rfl rfl ?_
  refine qK (yX rfl rfl) rfl rfl rfl ?_
  refine qK (qY rfl) rfl rfl rfl ?_
  refine doL_false 29 rfl (by rw [decide_eq_false_iff_not]; omega) ?_
  refine qK (qH fa87_1 rfl) rfl rfl rfl ?_
  refine qK (zJ 5 ty3 rfl rfl rfl) rfl rfl rfl ?_
  refine qK (opV_gtr rfl rfl) rfl rfl rfl ?_
  refine qK (uQ rfl rfl rfl rfl) rfl rfl rfl ?_
  refine qK (qW rfl) rfl rfl rfl ?_
  refine qU ?_
  refine qQ ?_
  refine jV rfl (by rw [decide_eq_false_iff_not]; omega) ?_
  refine qJ ?_
  refine qZ ?_
  refine qK (qH fa87_2 rfl) rfl rfl rfl ?_
  refine qK (zJ 5 ty3 rfl rfl rfl) rfl rfl rfl ?_
  refine qK (yX rfl rfl) rfl rfl rfl ?_
  refine qK (qY rfl) rfl rfl rfl ?_
  refine doL_false 38 rfl (by rw [decide_eq_false_iff_not]; omega) ?_
  refine qK (qH fa87_2 rfl) rfl rfl rfl ?_
  refine qK (zJ 5 ty3 rfl rfl rfl) rfl rfl rfl ?_
  refine qK (qY rfl) rfl rfl rfl ?_
  refine qK (opV_geq rfl rfl) rfl rfl rfl ?_
  refine qK (uQ rfl rfl rfl rfl) rfl rfl rfl ?_
  refine qK (qW rfl) rfl rfl rfl ?_
  refine qU ?_
  refine qQ ?_
  refine jV rfl (by rw [decide_eq_false_iff_not]; omega) ?_
  refine qJ ?_
  refine qZ ?_
  refine qK (qH fa87_3 rfl) rfl rfl rfl ?_
  refine qK (zQ 5 ty29 rfl rfl rfl) rfl rfl rfl ?_
  refine kJ (F := vB) (zY en133 rfl (fun w _ => cBeyond _ _ _ h0 h1 h2 w)) rfl rfl rfl ?_; intro r47 hr47
  refine qK (qW rfl) rfl rfl rfl ?_
  refine qU ?_
  refine qQ ?_
  refine jV rfl (hr47) ?_
  refine zU ?_
  refine qV ?_
  refine qQ ?_
  refine qJ ?_
  refine qZ ?_
  refine qK (qH fa87_1 rfl) rfl rfl rfl ?_
  refine qK (zJ 5 ty3 rfl rfl rfl) rfl rfl rfl ?_
  refine kJ (F := vI) (zY en134 rfl (fun w _ => cLimit _  w)) rfl rfl rfl ?_; intro r50 hr50
  subst hr50
  refine qK (qW rfl) rfl rfl rfl ?_
  refine qU ?_
  refine qQ ?_
  refine qJ ?_
  refine qJ ?_
  refine qZ ?_
  refine qK (qH fa87_4 rfl) rfl rfl rfl ?_
  refine qK (zJ 5 ty2 rfl rfl rfl) rfl rfl rfl ?_
  refine qK (qH fa87_5 rfl) rfl rfl rfl ?_
  refine qK (zJ 5 ty2 rfl rfl rfl) rfl rfl rfl ?_
  refine qK (opV_gtr rfl rfl) rfl rfl rfl ?_
  refine qK (qY rfl) rfl rfl rfl ?_
  refine doL_false 56 rfl (by rw [decide_eq_false_iff_not]; omega) ?_
  refine qK (qH fa87_4 rfl) rfl rfl rfl ?_
  refine qK (zJ 5 ty2 rfl rfl rfl) rfl rfl rfl ?_
  refine qK (qY rfl) rfl rfl rfl ?_
  refine qK (opV_neg rfl (by first | exact neg_in ⟨by omega, by omega⟩ | rfl)) rfl rfl rfl ?_
  refine qK (yX rfl rfl) rfl rfl rfl ?_
  refine qK (uQ rfl rfl rfl rfl) rfl rfl rfl ?_
  refine qK (qY rfl) rfl rfl rfl ?_
  refine doL_false 63 rfl (by rw [decide_eq_false_iff_not]; omega) ?_
  refine qK (qH fa87_5 rfl) rfl rfl rfl ?_
  refine qK (zJ 5 ty2 rfl rfl rfl) rfl rfl rfl ?_
  refine qK (qY rfl) rfl rfl rfl ?_
  refine qK (opV_gtr rfl rfl) rfl rfl rfl ?_
  refine qK (uQ rfl rfl rfl rfl) rfl rfl rfl ?_
  refine qU ?_
  refine qQ ?_
  refine jV rfl (by rw [decide_eq_false_iff_not]; omega) ?_
  refine zU ?_
  refine qQ ?_
  refine qJ ?_
  refine qJ ?_
  refine qZ ?_
  refine qK (qH fa87_6 rfl) rfl rfl rfl ?_
  refine qK (zJ 5 ty2 rfl rfl rfl) rfl rfl rfl ?_
  refine kJ (F := vB) (zY en135 rfl (fun w _ => cFrom1 _ _  w)) rfl rfl rfl ?_; intro r71 hr71
  refine qK (opV_not rfl) rfl rfl rfl ?_
  refine qK (qY rfl) rfl rfl rfl ?_
  refine doL_false 73 rfl (by rw [hr71]; simp; omega) ?_
  refine qK (qH fa87_7 rfl) rfl rfl rfl ?_
  refine qK (zJ 5 ty2 rfl rfl rfl) rfl rfl rfl ?_
  refine kJ (F := vB) (zY en135 rfl (fun w _ => cFrom1 _ _  w)) rfl rfl rfl ?_; intro r76 hr76
  refine qK (opV_not rfl) rfl rfl rfl ?_
  refine qK (uQ rfl rfl rfl rfl) rfl rfl rfl ?_
  refine qK (qY rfl) rfl rfl rfl ?_
  refine doL_false 79 rfl (by rw [hr76]; simp; omega) ?_
  refine qK (qH fa87_8 rfl) rfl rfl rfl ?_
  refine qK (zJ 5 ty2 rfl rfl rfl) rfl rfl rfl ?_
  refine kJ (F := vB) (zY en135 rfl (fun w _ => cFrom1 _ _  w)) rfl rfl rfl ?_; intro r82 hr82
  refine qK (opV_not rfl) rfl rfl rfl ?_
  refine qK (uQ rfl rfl rfl rfl) rfl rfl rfl ?_
  refine qK (qY rfl) rfl rfl rfl ?_
  refine doL_false 85 rfl (by rw [hr82]; simp; omega) ?_
  refine qK (qH fa87_9 rfl) rfl rfl rfl ?_
  refine qK (zJ 5 ty2 rfl rfl rfl) rfl rfl rfl ?_
  refine kJ (F := vB) (zY en135 rfl (fun w _ => cFrom1 _ _  w)) rfl rfl rfl ?_; intro r88 hr88
  refine qK (opV_not rfl) rfl rfl rfl ?_
  refine qK (uQ rfl rfl rfl rfl) rfl rfl rfl ?_
  refine qU ?_
  refine qQ ?_
  refine jV rfl (by rw [hr88]; simp; omega) ?_
  refine zU ?_
  refine qQ ?_
  refine qJ ?_
  refine qZ ?_
  refine qK (qW rfl) rfl rfl rfl ?_
  refine qU ?_
  refine qQ ?_
  refine yK ?_
  refine zH (rs := [.tmp 4]) rfl (resC (jX rfl) (resN)) (congrArg (vI) (?_ : _ = (0 : Int)))
  rfl
end Go.Proofs.YtnlnbnjnapofmaaGreat
namespace Go.Proofs.YtnlnbnjnapofmaaGreat
open Go.Sx
theorem fa114_0 : fieldB Tryz.prog 114 0 0 = true := by kernel_rfl
theorem fa114_1 : fieldB Tryz.prog 114 1 1 = true := by kernel_rfl
theorem fa114_2 : fieldB Tryz.prog 114 2 2 = true := by kernel_rfl
theorem ty114 : tyB Tryz.prog 114 true 5 = true := by kernel_rfl
theorem en101 : Enters Tryz.prog 101 := yW Tryz.func101 (by kernel_rfl) (by kernel_rfl)
theorem en136 : Enters Tryz.prog 136 := yW Tryz.func136 (by kernel_rfl) (by kernel_rfl)
theorem cMass  (aj am : Option Addr) (cj nm cm n : Nat) (lk ms px py pz : Int) (hlk : 0 ≤ lk ∧ lk < n) (hms : 1 ≤ ms ∧ ms ≤ 65536) (h0 : -4194304 ≤ px ∧ px ≤ 4194304) (h1 : -4194304 ≤ py ∧ py ≤ 4194304) (h2 : -4194304 ≤ pz ∧ pz ≤ 4194304) (w : World) : Calls Tryz.prog 101 [.agg #[.slice aj n cj, .slice am nm cm], .agg #[.int .i64 lk, .int .i64 ms, .int .i64 px, .int .i64 py, .int .i64 pz]].toArray w (Rets (vB (true)) (w)) := by
  refine yQ (n := 27) Tryz.func101 rfl rfl rfl ?_
  refine qJ ?_
  refine qZ ?_
  refine kW 2 rfl rfl rfl rfl ?_; intro b2
  refine kW 3 rfl rfl rfl rfl ?_; intro b3
  refine qK (qW rfl) rfl rfl rfl ?_
  refine qU ?_
  refine qQ ?_
  refine qJ ?_
  refine qZ ?_
  refine qK (qH fa114_0 rfl) rfl rfl rfl ?_
  refine qK (zJ 3 ty3 rfl rfl rfl) rfl rfl rfl ?_
  refine qK (opV_leq rfl rfl) rfl rfl rfl ?_
  refine qK (qY rfl) rfl rfl rfl ?_
  refine doL_true 8 rfl (decide_eq_true (by omega)) ?_
  refine qK (qH fa114_0 rfl) rfl rfl rfl ?_
  refine qK (zJ 3 ty3 rfl rfl rfl) rfl rfl rfl ?_
  refine qK (qH fa26_0 rfl) rfl rfl rfl ?_
  refine qK (zJ 2 ty23 rfl rfl rfl) rfl rfl rfl ?_
  refine qK (opV_len_slice sl23 rfl) rfl rfl rfl ?_
  refine qK (yX rfl rfl) rfl rfl rfl ?_
  refine qK (opV_pick_t rfl rfl rfl rfl) rfl rfl rfl ?_
  refine qK (qY rfl) rfl rfl rfl ?_
  refine doL_true 16 rfl (decide_eq_true (by omega)) ?_
  refine qK (qH fa114_1 rfl) rfl rfl rfl ?_
  refine qK (zJ 3 ty2 rfl rfl rfl) rfl rfl rfl ?_
  refine kJ (F := vB) (zY en135 rfl (fun w _ => cFrom1 _ _  w)) rfl rfl rfl ?_; intro r19 hr19
  refine qK (opV_pick_t rfl rfl rfl rfl) rfl rfl rfl ?_
  refine qK (qY rfl) rfl rfl rfl ?_
  refine doL_true 21 rfl (by rw [hr19]; simp; omega) ?_
  refine qK (qH fa114_2 rfl) rfl rfl rfl ?_
  refine qK (zQ 3 ty29 rfl rfl rfl) rfl rfl rfl ?_
  refine kJ (F := vB) (zY en133 rfl (fun w _ => cBeyond _ _ _ h0 h1 h2 w)) rfl rfl rfl ?_; intro r24 hr24
  refine qK (opV_not rfl) rfl rfl rfl ?_
  refine qK (opV_pick_t rfl rfl rfl rfl) rfl rfl rfl ?_
  refine qK (qW rfl) rfl rfl rfl ?_
  refine qU ?_
  refine qQ ?_
  refine yK ?_
  refine zH (rs := [.tmp 4]) rfl (resC (jX rfl) (resN)) (congrArg (vB) (?_ : _ = true))
  rw [hr24]; rfl
theorem en_mq : Enters Tryz.prog 100 := yW Tryz.func100 (by kernel_rfl) (by kernel_rfl)
theorem cMass1  (aj am : Option Addr) (cj nm cm n b : Nat) (lk ms px py pz : Int) (hlk : 0 ≤ lk ∧ lk < n) (hms : 1 ≤ ms ∧ ms ≤ 65536) (h0 : -4194304 ≤ px ∧ px ≤ 4194304) (h1 : -4194304 ≤ py ∧ py ≤ 4194304) (h2 : -4194304 ≤ pz ∧ pz ≤ 4194304) (w : World) (hb : w.heap[b]? = some (.cells [.slice aj n cj, .slice am nm cm].toArray 26)) : Calls Tryz.prog 100 [.agg #[.int .i64 lk, .int .i64 ms, .int .i64 px, .int .i64 py, .int .i64 pz], .pointer (some ⟨b, 0, none⟩)].toArray w (Rets (vB (false)) (w)) := by
  refine yQ (n := 8) Tryz.func100 rfl rfl rfl ?_
  refine qJ ?_
  refine qZ ?_
  refine kW 2 rfl rfl rfl rfl ?_; intro b2
  refine qK (qW rfl) rfl rfl rfl ?_
  refine qU ?_
  refine qQ ?_
  refine qJ ?_
  refine qZ ?_
  refine qK (opV_loadA_blk hb ty26 rfl rfl) rfl rfl rfl ?_
  refine qK (zQ 2 ty114 rfl rfl rfl) rfl rfl rfl ?_
  refine kJ (F := vB) (zY en101 rfl (fun w _ => cMass _ _ _ _ _ _ _ _ _ _ _ hlk hms h0 h1 h2 w)) rfl rfl rfl ?_; intro r6 hr6
  refine qK (opV_not rfl) rfl rfl rfl ?_
  refine qK (qW rfl) rfl rfl rfl ?_
  refine qU ?_
  refine qQ ?_
  refine yK ?_
  refine zH (rs := [.tmp 3]) rfl (resC (jX rfl) (resN)) (congrArg (vB) (?_ : _ = false))
  rw [hr6]; rfl
def MB (n : Nat) (m : Ms) : Prop := (0 ≤ m.link ∧ m.link < n) ∧ (1 ≤ m.mass ∧ m.mass ≤ 65536) ∧ (-4194304 ≤ m.p.x ∧ m.p.x ≤ 4194304) ∧ (-4194304 ≤ m.p.y ∧ m.p.y ≤ 4194304) ∧ (-4194304 ≤ m.p.z ∧ m.p.z ≤ 4194304)
theorem ixMs  (aj am : Option Addr) (cj nm cm n b : Nat) (l : List Ms) (hn : nm ≤ 1000) (hbn : l.length = nm) (hv : ∀ m ∈ l, MB n m) (w : World) (hT : SlcIs 5 am (l.map mc) w) (hb : w.heap[b]? = some (.cells [.slice aj n cj, .slice am nm cm].toArray 26)) : Calls Tryz.prog 136 [.slice am nm cm, .func (.func 100) #[] #[.pointer (some ⟨b, 0, none⟩)]].toArray w (Rets (vI (-1)) (w)) := by
  refine yQ (n := 19) Tryz.func136 rfl rfl rfl ?_
  refine qJ ?_
  refine qZ ?_
  refine qK (qW rfl) rfl rfl rfl ?_
  refine qU ?_
  refine qQ ?_
  refine qJ ?_
  refine qJ ?_
  refine qZ ?_
  refine qK (qY rfl) rfl rfl rfl ?_
  refine qK (opV_len_slice sl24 rfl) rfl rfl rfl ?_
  refine qK (qY rfl) rfl rfl rfl ?_
  refine qU ?_
  refine qQ ?_
  refine zK ?_
  refine doC_loopK [0, 1, 7] [] (α := Nat) (fun x => nm - x) (fun x => x ≤ nm) (fun _ => ⟨w, []⟩) (fun x => [(8, .int .i64 (x : Int))]) (fun _ => []) 0 rfl rfl ?_ ?_ ?_ ?_ rfl ?_
  ·
    exact Nat.zero_le _
  ·
    exact rfl
  ·
    repeat' first | exact trivial | exact True.intro | refine ⟨rfl, ?_⟩
  ·
    repeat' first | exact trivial | exact True.intro | refine ⟨rfl, ?_⟩
  rintro k hk
  try dsimp only at hk ⊢
  refine qJ ?_
  refine qZ ?_
  refine qK (yX rfl rfl) rfl rfl rfl ?_
  refine qU ?_
  refine qQ ?_
  refine qJ ?_
  refine jW rfl (fun hc9 => ?_) (fun hc9 => ?_)
  ·
    have h2 : k < nm := by have := of_decide_eq_true hc9; omega
    obtain ⟨m, hak⟩ : ∃ m, l[k]? = some m := ⟨_, List.getElem?_eq_getElem (by omega)⟩
    have ha : (l.map mc)[k]? = some (mc m) := by rw [List.getElem?_map, hak]; rfl
    obtain ⟨m1, m2, m3, m4, m5⟩ := hv m (List.mem_of_getElem? hak)
    refine zU ?_
    refine qQ ?_
    refine qJ ?_
    refine zK ?_
    refine qJ ?_
    refine qZ ?_
    refine qK (qY rfl) rfl rfl rfl ?_
    refine qK (qW rfl) rfl rfl rfl ?_
    refine qU ?_
    refine qQ ?_
    refine qJ ?_
    refine qZ ?_
    refine qK (qY rfl) rfl rfl rfl ?_
    refine qK (qY rfl) rfl rfl rfl ?_
    refine qK (qY rfl) rfl rfl rfl ?_
    refine qK (opV_indexS (e := 114) (holds_base hT) (by kernel_rfl) rfl rfl rfl ha h2) rfl rfl rfl ?_
    refine qK (opV_loadSA (vs := mc m) k 0 (holds_base hT) ha ty114 rfl rfl) rfl rfl rfl ?_
    refine kJ (F := vB) (opV_callV en_mq rfl rfl rfl (fun w' k' => cMass1 aj am cj nm cm n b _ _ _ _ _ m1 m2 m3 m4 m5 w' (by rw [k'.grow.block b (kV hb)]; exact hb))) rfl rfl rfl ?_; intro r16 hr16
    refine qU ?_
    refine qQ ?_
    refine jV rfl (hr16) ?_
    refine zU ?_
    refine qV ?_
    refine qQ ?_
    refine qZ ?_
    refine qK (yZ rfl rfl (inc_nat (by omega))) rfl rfl rfl ?_
    refine qK (qY rfl) rfl rfl rfl ?_
    refine qU ?_
    refine post_again (k + 1) (by show k + 1 ≤ nm; omega) (by show nm - (k + 1) < nm - k; omega) rfl ?_ ?_ rfl
    repeat' first | exact trivial | exact True.intro | refine ⟨rfl, ?_⟩
  ·
    refine uZ ?_
    refine zX ?_
    refine zX ?_
    refine yH ?_
    refine qQ ?_
    refine qJ ?_
    refine qZ ?_
    refine qK (qW rfl) rfl rfl rfl ?_
    refine qU ?_
    refine qQ ?_
    refine yK ?_
    refine zH (rs := [.tmp 4]) rfl (resC (jX rfl) (resN)) (congrArg (vI) (?_ : _ = -1))
    rfl
theorem hasMs  (aj am : Option Addr) (cj nm cm n b : Nat) (l : List Ms) (hn : nm ≤ 1000) (hbn : l.length = nm) (hv : ∀ m ∈ l, MB n m) (w : World) (hT : SlcIs 5 am (l.map mc) w) (hb : w.heap[b]? = some (.cells [.slice aj n cj, .slice am nm cm].toArray 26)) : Calls Tryz.prog 99 [.slice am nm cm, .func (.func 100) #[] #[.pointer (some ⟨b, 0, none⟩)]].toArray w (Rets (vB (false)) (w)) := by
  refine yQ (n := 9) Tryz.func99 rfl rfl rfl ?_
  refine qJ ?_
  refine qZ ?_
  refine qK (qW rfl) rfl rfl rfl ?_
  refine qU ?_
  refine qQ ?_
  refine qJ ?_
  refine qZ ?_
  refine qK (qY rfl) rfl rfl rfl ?_
  refine qK (qY rfl) rfl rfl rfl ?_
  refine kJ (F := vI) (zY en136 rfl (fun w' k => ixMs aj am cj nm cm n b l hn hbn hv w' (slc_grow hT k.grow) (by rw [k.grow.block b (kV hb)]; exact hb))) rfl rfl rfl ?_; intro r7 hr7
  refine qK (opV_geq rfl rfl) rfl rfl rfl ?_
  refine qK (qW rfl) rfl rfl rfl ?_
  refine qU ?_
  refine qQ ?_
  refine yK ?_
  refine zH (rs := [.tmp 4]) rfl (resC (jX rfl) (resN)) (congrArg (vB) (?_ : _ = false))
  rw [hr7]; rfl
end Go.Proofs.YtnlnbnjnapofmaaGreat
namespace Go.Proofs.YtnlnbnjnapofmaaGreat
open Go.Sx
theorem en98 : Enters Tryz.prog 98 := yW Tryz.func98 (by kernel_rfl) (by kernel_rfl)
theorem en99 : Enters Tryz.prog 99 := yW Tryz.func99 (by kernel_rfl) (by kernel_rfl)
def JOK (js : List J) (i : Nat) (j : J) : Prop := ∃ c : Nat, (∀ (k : Nat), k < i → ∀ (j2 : J), js[k]? = some j2 → (j2.name.toList == j.name.toList) = false) ∧ j.name.size = 1 ∧ Utf8.decode j.name 0 = (c, 1) ∧ (97 ≤ c ∧ c ≤ 122) ∧ (j.name.toList == (ByteArray.mk #[119, 111, 114, 108, 100]).toList) = false ∧
    (0 ≤ j.kind ∧ j.kind ≤ 6) ∧ (-1 ≤ j.parent ∧ j.parent < i) ∧ (-4194304 ≤ j.off.x ∧ j.off.x ≤ 4194304) ∧ (-4194304 ≤ j.off.y ∧ j.off.y ≤ 4194304) ∧ (-4194304 ≤ j.off.z ∧ j.off.z ≤ 4194304) ∧ (j.lo ≤ j.hi ∧ -limK j.kind ≤ j.lo ∧ j.hi ≤ limK j.kind) ∧
    (1 ≤ j.weight ∧ j.weight ≤ 1024) ∧ (1 ≤ j.speed ∧ j.speed ≤ 1048576) ∧ (1 ≤ j.accel ∧ j.accel ≤ 1048576) ∧ (1 ≤ j.torque ∧ j.torque ≤ 1099511627776)
theorem cJok (aj am : Option Addr) (cj nm cm n i : Nat) (js : List J) (j : J) (hn : n ≤ 1000) (hjn : js.length = n) (hin : i < n) (hjk : js[i]? = some j) (h : JOK js i j) (w : World) (hS : SlcIs 12 aj (js.map jc) w) :
    Calls Tryz.prog 98 [.agg #[.slice aj n cj, .slice am nm cm], .int .i64 (i : Int)].toArray w (Rets (vI (0 : Int)) w) := by
  obtain ⟨c, a1, a2, a3, a4, a5, a6, a7, a8, a9, a10, a11, a12, a13, a14, a15⟩ := h
  exact cJoint aj am cj nm cm n i js j c hn hjn hin hjk a1 a2 a3 a4 a5 a6 a7 a8 a9 a10 a11 a12 a13 a14 a15 w hS
theorem cCheck  (aj am : Option Addr) (cj nm cm n : Nat) (js : List J) (l : List Ms) (hn : 1 ≤ n ∧ n ≤ 10) (hm : nm ≤ 32) (hjn : js.length = n) (hln : l.length = nm) (hJ : ∀ (i : Nat) (j : J), js[i]? = some j → JOK js i j) (hv : ∀ m ∈ l, MB n m) (w : World) (hS : SlcIs 12 aj (js.map jc) w) (hT : SlcIs 5 am (l.map mc) w) : Calls Tryz.prog 67 [.agg #[.slice aj n cj, .slice am nm cm]].toArray w (Rets (vI ((0 : Int))) (w)) := by
  refine yQ (n := 38) Tryz.func67 rfl rfl rfl ?_
  refine qJ ?_
  refine qZ ?_
  refine kW 1 rfl rfl rfl rfl ?_; intro b1
  refine qK (qW rfl) rfl rfl rfl ?_
  refine qU ?_
  refine qQ ?_
  refine qJ ?_
  refine qJ ?_
  refine qZ ?_
  refine qK (qH fa26_0 rfl) rfl rfl rfl ?_
  refine qK (zJ 1 ty23 rfl rfl rfl) rfl rfl rfl ?_
  refine qK (opV_len_slice sl23 rfl) rfl rfl rfl ?_
  refine qK (opV_eql rfl rfl) rfl rfl rfl ?_
  refine qK (qY rfl) rfl rfl rfl ?_
  refine doL_false 9 rfl (by rw [decide_eq_false_iff_not]; omega) ?_
  refine qK (qH fa26_0 rfl) rfl rfl rfl ?_
  refine qK (zJ 1 ty23 rfl rfl rfl) rfl rfl rfl ?_
  refine qK (opV_len_slice sl23 rfl) rfl rfl rfl ?_
  refine qK (opV_gtr rfl rfl) rfl rfl rfl ?_
  refine qK (uQ rfl rfl rfl rfl) rfl rfl rfl ?_
  refine qU ?_
  refine qQ ?_
  refine jV rfl (by rw [decide_eq_false_iff_not]; omega) ?_
  refine zU ?_
  refine qQ ?_
  refine qJ ?_
  refine qJ ?_
  refine qZ ?_
  refine qK (qH fa26_0 rfl) rfl rfl rfl ?_
  refine qK (zJ 1 ty23 rfl rfl rfl) rfl rfl rfl ?_
  refine qK (opV_len_slice sl23 rfl) rfl rfl rfl ?_
  refine qK (qY rfl) rfl rfl rfl ?_
  refine qU ?_
  refine qQ ?_
  refine zK ?_
  refine doC_loopK [1, 17] [1] (α := Nat) (fun x => n - x) (fun x => x ≤ n) (fun _ => ⟨w, []⟩) (fun x => [(18, .int .i64 (x : Int))]) (fun _ => []) 0 rfl rfl ?_ ?_ ?_ ?_ rfl ?_
  ·
    exact Nat.zero_le _
  ·
    exact rfl
  ·
    repeat' first | exact trivial | exact True.intro | refine ⟨rfl, ?_⟩
  ·
    repeat' first | exact trivial | exact True.intro | refine ⟨rfl, ?_⟩
  rintro i hi
  try dsimp only at hi ⊢
  refine qJ ?_
  refine qZ ?_
  refine qK (yX rfl rfl) rfl rfl rfl ?_
  refine qU ?_
  refine qQ ?_
  refine qJ ?_
  refine jW rfl (fun hc19 => ?_) (fun hc19 => ?_)
  ·
    have h2 : i < n := by have := of_decide_eq_true hc19; omega
    obtain ⟨j, hjk⟩ : ∃ j, js[i]? = some j := ⟨_, List.getElem?_eq_getElem (by omega)⟩
    refine zU ?_
    refine qQ ?_
    refine qJ ?_
    refine zK ?_
    refine qJ ?_
    refine qZ ?_
    refine qK (qY rfl) rfl rfl rfl ?_
    refine qK (qW rfl) rfl rfl rfl ?_
    refine qU ?_
    refine qQ ?_
    refine qJ ?_
    refine qZ ?_
    refine qK (zQ 1 ty26 rfl rfl rfl) rfl rfl rfl ?_
    refine qK (qY rfl) rfl rfl rfl ?_
    refine kJ (F := vI) (zY en98 rfl (fun w' k => cJok aj am cj nm cm n i js j (by omega) hjn h2 hjk (hJ i j hjk) w' (slc_grow hS k.grow))) rfl rfl rfl ?_; intro r23 hr23
    refine qK (qW rfl) rfl rfl rfl ?_
    refine qU ?_
    refine qQ ?_
    refine qJ ?_
    refine qZ ?_
    refine qK (qY rfl) rfl rfl rfl ?_
    refine qK (opV_neq rfl rfl) rfl rfl rfl ?_
    refine qU ?_
    refine qQ ?_
    refine jV rfl (by rw [hr23]; rfl) ?_
    refine zU ?_
    refine qV ?_
    refine qQ ?_
    refine qZ ?_
    refine qK (yZ rfl rfl (inc_nat (by omega))) rfl rfl rfl ?_
    refine qK (qY rfl) rfl rfl rfl ?_
    refine qU ?_
    refine post_again (i + 1) (by show i + 1 ≤ n; omega) (by show n - (i + 1) < n - i; omega) rfl ?_ ?_ rfl
    repeat' first | exact trivial | exact True.intro | refine ⟨rfl, ?_⟩
  ·
    refine uZ ?_
    refine zX ?_
    refine zX ?_
    refine yH ?_
    refine qQ ?_
    refine qJ ?_
    refine qJ ?_
    refine qZ ?_
    refine qK (qH fa26_1 rfl) rfl rfl rfl ?_
    refine qK (zJ 1 ty24 rfl rfl rfl) rfl rfl rfl ?_
    refine qK (opV_len_slice sl24 rfl) rfl rfl rfl ?_
    refine qK (opV_gtr rfl rfl) rfl rfl rfl ?_
    refine qK (qY rfl) rfl rfl rfl ?_
    refine doL_false 32 rfl (by rw [decide_eq_false_iff_not]; omega) ?_
    refine qK (qH fa26_1 rfl) rfl rfl rfl ?_
    refine qK (zJ 1 ty24 rfl rfl rfl) rfl rfl rfl ?_
    refine qK (opV_makeFunc rfl rfl) rfl rfl rfl ?_
    refine kJ (F := vB) (zY en99 rfl (fun w' k => hasMs aj am cj nm cm n b1 l (by omega) hln hv w' (slc_grow hT k.grow) (k.at (i := 1) rfl).2)) rfl rfl rfl ?_; intro r36 hr36
    refine qK (uQ rfl rfl rfl rfl) rfl rfl rfl ?_
    refine qU ?_
    refine qQ ?_
    refine jV rfl (hr36) ?_
    refine zU ?_
    refine qQ ?_
    refine qJ ?_
    refine qZ ?_
    refine qK (qW rfl) rfl rfl rfl ?_
    refine qU ?_
    refine qQ ?_
    refine yK ?_
    refine zH (rs := [.tmp 2]) rfl (resC (jX rfl) (resN)) (congrArg (vI) (?_ : _ = (0 : Int)))
    rfl
end Go.Proofs.YtnlnbnjnapofmaaGreat
namespace Go.Proofs.YtnlnbnjnapofmaaGreat
open Go.Sx Go.RowKit
theorem let0 : (letterB 0).size = 1 ∧ Utf8.decode (letterB 0) 0 = (97, 1) ∧ ((letterB 0).toList == (ByteArray.mk #[119, 111, 114, 108, 100]).toList) = false := by refine ⟨?_, ?_, ?_⟩ <;> kernel_rfl
theorem let1 : (letterB 1).size = 1 ∧ Utf8.decode (letterB 1) 0 = (98, 1) ∧ ((letterB 1).toList == (ByteArray.mk #[119, 111, 114, 108, 100]).toList) = false := by refine ⟨?_, ?_, ?_⟩ <;> kernel_rfl
theorem let2 : (letterB 2).size = 1 ∧ Utf8.decode (letterB 2) 0 = (99, 1) ∧ ((letterB 2).toList == (ByteArray.mk #[119, 111, 114, 108, 100]).toList) = false := by refine ⟨?_, ?_, ?_⟩ <;> kernel_rfl
theorem ne01 : ((letterB 0).toList == (letterB 1).toList) = false := by kernel_rfl
theorem ne02 : ((letterB 0).toList == (letterB 2).toList) = false := by kernel_rfl
theorem ne12 : ((letterB 1).toList == (letterB 2).toList) = false := by kernel_rfl
theorem letter_ok (k : Nat) (h : k < 3) : ∃ c : Nat, (letterB k).size = 1 ∧ Utf8.decode (letterB k) 0 = (c, 1) ∧ (97 ≤ c ∧ c ≤ 122) ∧ ((letterB k).toList == (ByteArray.mk #[119, 111, 114, 108, 100]).toList) = false := by
  rcases (show k = 0 ∨ k = 1 ∨ k = 2 by omega) with rfl | rfl | rfl
  · exact ⟨97, let0.1, let0.2.1, by omega, let0.2.2⟩
  · exact ⟨98, let1.1, let1.2.1, by omega, let1.2.2⟩
  · exact ⟨99, let2.1, let2.2.1, by omega, let2.2.2⟩
theorem letter_ne (a b : Nat) (h : a < b) (hb : b < 3) : ((letterB a).toList == (letterB b).toList) = false := by
  rcases (show (a = 0 ∧ b = 1) ∨ (a = 0 ∧ b = 2) ∨ (a = 1 ∧ b = 2) by omega) with ⟨rfl, rfl⟩ | ⟨rfl, rfl⟩ | ⟨rfl, rfl⟩
  · exact ne01
  · exact ne02
  · exact ne12
theorem joint_lim (L : List Int) (p : Nat) (k : Int) : -limK (jointOf L p k).1.kind ≤ (jointOf L p k).1.lo ∧ (jointOf L p k).1.hi ≤ limK (jointOf L p k).1.kind := by
  have hk := (jointOf_same L p k).2.1
  rw [hk]
  by_cases h0 : kindOf (srcR L (p + 2) 8) = 0
  · rw [jointOf_fix h0, h0]
    exact ⟨by show -limK 0 ≤ 0; decide, by show 0 ≤ limK 0; decide⟩
  · by_cases h : kindOf (srcR L (p + 2) 8) = 4 ∨ kindOf (srcR L (p + 2) 8) = 5
    · rw [jointOf_sl h]
      have a := uJ L (jQ p k) (k := 3) (by decide)
      have b := uJ L (jQ p k + 1) (k := 4) (by decide)
      have e : limK (kindOf (srcR L (p + 2) 8)) = 4194304 := by unfold limK; rw [if_neg (by omega), if_pos (by omega)]
      rw [e]
      dsimp only
      omega
    · rw [jointOf_tu h0 h]
      have a := uJ L (jQ p k) (k := 5) (by decide)
      have b := uJ L (jQ p k + 1) (k := 4) (by decide)
      have c := uJ L (jQ p k + 2) (k := 3) (by decide)
      have e : 524288 ≤ limK (kindOf (srcR L (p + 2) 8)) := by
        have := kindOf_b (srcR L (p + 2) 8)
        unfold limK
        repeat' split
        all_goals omega
      dsimp only
      rw [Int.tdiv_eq_ediv_of_nonneg (a := (1 + srcR L (jQ p k + 1) 4) * 65536) (by omega), show (-srcR L (jQ p k) 5 * 65536).tdiv 8 = -(srcR L (jQ p k) 5 * 8192) by
        rw [show -srcR L (jQ p k) 5 * 65536 = -(srcR L (jQ p k) 5 * 8192) * 8 by omega]
        exact Int.mul_tdiv_cancel _ (by decide)]
      omega
theorem base_b (L : List Int) (p k : Nat) : (-1 ≤ (jBase L p (k : Int)).parent ∧ (jBase L p (k : Int)).parent < k) ∧ (-4194304 ≤ (jBase L p (k : Int)).off.x ∧ (jBase L p (k : Int)).off.x ≤ 4194304) ∧ (-4194304 ≤ (jBase L p (k : Int)).off.y ∧ (jBase L p (k : Int)).off.y ≤ 4194304) ∧ (-4194304 ≤ (jBase L p (k : Int)).off.z ∧ (jBase L p (k : Int)).off.z ≤ 4194304) := by
  have c := uJ L (p + 4) (k := 2 * 2 + 1) (by decide)
  have d := uJ L (p + 5) (k := 2 * 1 + 1) (by decide)
  unfold jBase srcS
  dsimp only
  refine ⟨?_, ?_⟩
  · split <;> omega
  · split <;> (dsimp only; omega)
theorem made_JOK (L : List Int) (i n : Nat) (hn : n ≤ 3) (k : Nat) (j : J) (h : (jsOf L i n).1[k]? = some j) : JOK (jsOf L i n).1 k j := by
  have hk : k < n := by have := (List.getElem?_eq_some_iff.1 h).1; rw [jsOf_len] at this; exact this
  obtain ⟨p, rfl⟩ := jsOf_get L i n k j h
  obtain ⟨s1, s2, s3, s4, s5, s6, s7, s8⟩ := jointOf_same L p (k : Int)
  obtain ⟨c, l1, l2, l3, l4⟩ := letter_ok k (by omega)
  obtain ⟨b1, b2, b3, b4⟩ := base_b L p k
  have lim := joint_lim L p (k : Int)
  have jb := jointOf_b L p (k : Int)
  have a := uJ L p (k := 4) (by decide)
  have b := uJ L (p + 1) (k := 3) (by decide)
  refine ⟨c, fun q hq j2 h2 => ?_, by rw [s1]; exact l1, by rw [s1]; exact l2, l3, by rw [s1]; exact l4, by rw [s2]; exact kindOf_b _, by rw [s3]; exact b1, by rw [s4]; exact b2, by rw [s4]; exact b3, by rw [s4]; exact b4, ⟨jb.2.1, lim.1, lim.2⟩, by rw [s5]; omega, by rw [s6]; omega, by rw [s7]; omega, by rw [s8]; omega⟩
  obtain ⟨p2, rfl⟩ := jsOf_get L i n q j2 h2
  rw [(jointOf_same L p2 (q : Int)).1, s1]
  exact letter_ne q k hq (by omega)
end Go.Proofs.YtnlnbnjnapofmaaGreat
namespace Go.Proofs.YtnlnbnjnapofmaaGreat
open Go.Sx
theorem en176 : Enters Tryz.prog 176 := yW Tryz.func176 (by kernel_rfl) (by kernel_rfl)
theorem en177 : Enters Tryz.prog 177 := yW Tryz.func177 (by kernel_rfl) (by kernel_rfl)
theorem ze197 : zeroIs Tryz.prog 197 (.agg #[.nilFunc]) := by unfold zeroIs; kernel_rfl
theorem la197 : layoutOf Tryz.prog 197 = some ([.nilFunc], [(0, 1)]) := by kernel_rfl
theorem ty197 : tyB Tryz.prog 197 true 1 = true := by kernel_rfl
theorem en158 : Enters Tryz.prog 158 := yW Tryz.func158 (by kernel_rfl) (by kernel_rfl)
theorem fl197_0 : fldB Tryz.prog 197 0 0 = true := by kernel_rfl
theorem en141 : Enters Tryz.prog 141 := yW Tryz.func141 (by kernel_rfl) (by kernel_rfl)
theorem kTurn (k : Int) (a0 a1 : Int) (w : World) : Calls Tryz.prog 166 [.int .i64 k, .agg #[.int .i64 a0, .int .i64 a1]].toArray w (Rets (po (Po.turn k (⟨a0, a1⟩ : Iv))) (w)) := by
  refine yQ (n := 8) Tryz.func166 rfl rfl rfl ?_
  refine qJ ?_
  refine qZ ?_
  refine kW 3 rfl rfl rfl rfl ?_; intro b3
  refine jY 4 ze134 rfl rfl rfl ?_; intro b4
  refine qU ?_
  refine qQ ?_
  refine qJ ?_
  refine qZ ?_
  refine qK (qY rfl) rfl rfl rfl ?_
  refine qK (zQ 3 ty88 rfl rfl rfl) rfl rfl rfl ?_
  refine kJ (F := po) (zY en176 rfl (fun w _ => pTurn _ _ _  w)) rfl rfl rfl ?_; intro r7 hr7
  refine zZ 4 ty134 rfl rfl rfl rfl rfl rfl rfl rfl ?_
  refine qU ?_
  refine qQ ?_
  refine yK ?_
  refine zH (rs := [.cell 4 134]) rfl (resC (yY 4 rfl rfl ty134 rfl) (resN)) (congrArg (po) (?_ : ⟨⟨⟨⟨_, _⟩, ⟨_, _⟩, ⟨_, _⟩⟩, ⟨⟨_, _⟩, ⟨_, _⟩, ⟨_, _⟩⟩, ⟨⟨_, _⟩, ⟨_, _⟩, ⟨_, _⟩⟩⟩, ⟨⟨_, _⟩, ⟨_, _⟩, ⟨_, _⟩⟩⟩ = Po.turn k (⟨a0, a1⟩ : Iv)))
  subst_vars; rfl
theorem kSlide (k : Int) (a0 a1 : Int) (hk : 0 ≤ k ∧ k ≤ 2) (w : World) : Calls Tryz.prog 167 [.int .i64 k, .agg #[.int .i64 a0, .int .i64 a1]].toArray w (Rets (po (Po.shift (V3.put k (⟨a0, a1⟩ : Iv)))) (w)) := by
  refine yQ (n := 11) Tryz.func167 rfl rfl rfl ?_
  refine qJ ?_
  refine qZ ?_
  refine kW 3 rfl rfl rfl rfl ?_; intro b3
  refine jY 4 ze134 rfl rfl rfl ?_; intro b4
  refine qU ?_
  refine qQ ?_
  refine qJ ?_
  refine qZ ?_
  refine jY 5 ze127 rfl rfl rfl ?_; intro b5
  refine qU ?_
  refine qQ ?_
  refine qJ ?_
  rcases (show k = 0 ∨ k = 1 ∨ k = 2 by omega) with rfl | rfl | rfl
  ·
    refine qZ ?_
    refine qK (qY rfl) rfl rfl rfl ?_
    refine qK (zQ 3 ty88 rfl rfl rfl) rfl rfl rfl ?_
    refine qK (qX ar127 rfl rfl (by first | decide | omega) (by first | decide | omega)) rfl rfl rfl ?_
    refine zZ 5 ty88 rfl rfl rfl rfl rfl rfl rfl rfl ?_
    refine qU ?_
    refine qQ ?_
    refine qJ ?_
    refine qZ ?_
    refine qK (zQ 5 ty127 rfl rfl rfl) rfl rfl rfl ?_
    refine kJ (F := po) (zY en157 rfl (fun w _ => pShift _ _ _ _ _ _  w)) rfl rfl rfl ?_; intro r10 hr10
    refine zZ 4 ty134 rfl rfl rfl rfl rfl rfl rfl rfl ?_
    refine qU ?_
    refine qQ ?_
    refine yK ?_
    refine zH (rs := [.cell 4 134]) rfl (resC (yY 4 rfl rfl ty134 rfl) (resN)) (congrArg (po) (?_ : ⟨⟨⟨⟨_, _⟩, ⟨_, _⟩, ⟨_, _⟩⟩, ⟨⟨_, _⟩, ⟨_, _⟩, ⟨_, _⟩⟩, ⟨⟨_, _⟩, ⟨_, _⟩, ⟨_, _⟩⟩⟩, ⟨⟨_, _⟩, ⟨_, _⟩, ⟨_, _⟩⟩⟩ = Po.shift (V3.put 0 (⟨a0, a1⟩ : Iv))))
    subst_vars; rfl
  ·
    refine qZ ?_
    refine qK (qY rfl) rfl rfl rfl ?_
    refine qK (zQ 3 ty88 rfl rfl rfl) rfl rfl rfl ?_
    refine qK (qX ar127 rfl rfl (by first | decide | omega) (by first | decide | omega)) rfl rfl rfl ?_
    refine zZ 5 ty88 rfl rfl rfl rfl rfl rfl rfl rfl ?_
    refine qU ?_
    refine qQ ?_
    refine qJ ?_
    refine qZ ?_
    refine qK (zQ 5 ty127 rfl rfl rfl) rfl rfl rfl ?_
    refine kJ (F := po) (zY en157 rfl (fun w _ => pShift _ _ _ _ _ _  w)) rfl rfl rfl ?_; intro r10 hr10
    refine zZ 4 ty134 rfl rfl rfl rfl rfl rfl rfl rfl ?_
    refine qU ?_
    refine qQ ?_
    refine yK ?_
    refine zH (rs := [.cell 4 134]) rfl (resC (yY 4 rfl rfl ty134 rfl) (resN)) (congrArg (po) (?_ : ⟨⟨⟨⟨_, _⟩, ⟨_, _⟩, ⟨_, _⟩⟩, ⟨⟨_, _⟩, ⟨_, _⟩, ⟨_, _⟩⟩, ⟨⟨_, _⟩, ⟨_, _⟩, ⟨_, _⟩⟩⟩, ⟨⟨_, _⟩, ⟨_, _⟩, ⟨_, _⟩⟩⟩ = Po.shift (V3.put 1 (⟨a0, a1⟩ : Iv))))
    subst_vars; rfl
  ·
    refine qZ ?_
    refine qK (qY rfl) rfl rfl rfl ?_
    refine qK (zQ 3 ty88 rfl rfl rfl) rfl rfl rfl ?_
    refine qK (qX ar127 rfl rfl (by first | decide | omega) (by first | decide | omega)) rfl rfl rfl ?_
    refine zZ 5 ty88 rfl rfl rfl rfl rfl rfl rfl rfl ?_
    refine qU ?_
    refine qQ ?_
    refine qJ ?_
    refine qZ ?_
    refine qK (zQ 5 ty127 rfl rfl rfl) rfl rfl rfl ?_
    refine kJ (F := po) (zY en157 rfl (fun w _ => pShift _ _ _ _ _ _  w)) rfl rfl rfl ?_; intro r10 hr10
    refine zZ 4 ty134 rfl rfl rfl rfl rfl rfl rfl rfl ?_
    refine qU ?_
    refine qQ ?_
    refine yK ?_
    refine zH (rs := [.cell 4 134]) rfl (resC (yY 4 rfl rfl ty134 rfl) (resN)) (congrArg (po) (?_ : ⟨⟨⟨⟨_, _⟩, ⟨_, _⟩, ⟨_, _⟩⟩, ⟨⟨_, _⟩, ⟨_, _⟩, ⟨_, _⟩⟩, ⟨⟨_, _⟩, ⟨_, _⟩, ⟨_, _⟩⟩⟩, ⟨⟨_, _⟩, ⟨_, _⟩, ⟨_, _⟩⟩⟩ = Po.shift (V3.put 2 (⟨a0, a1⟩ : Iv))))
    subst_vars; rfl
theorem kRest (k : Int) (a0 a1 : Int) (w : World) : Calls Tryz.prog 168 [.int .i64 k, .agg #[.int .i64 a0, .int .i64 a1]].toArray w (Rets (po (Po.rest)) (w)) := by
  refine yQ (n := 6) Tryz.func168 rfl rfl rfl ?_
  refine qJ ?_
  refine qZ ?_
  refine kW 3 rfl rfl rfl rfl ?_; intro b3
  refine jY 4 ze134 rfl rfl rfl ?_; intro b4
  refine qU ?_
  refine qQ ?_
  refine qJ ?_
  refine qZ ?_
  refine kJ (F := po) (zY en177 rfl (fun w _ => pIdentity   w)) rfl rfl rfl ?_; intro r5 hr5
  refine zZ 4 ty134 rfl rfl rfl rfl rfl rfl rfl rfl ?_
  refine qU ?_
  refine qQ ?_
  refine yK ?_
  refine zH (rs := [.cell 4 134]) rfl (resC (yY 4 rfl rfl ty134 rfl) (resN)) (congrArg (po) (?_ : ⟨⟨⟨⟨_, _⟩, ⟨_, _⟩, ⟨_, _⟩⟩, ⟨⟨_, _⟩, ⟨_, _⟩, ⟨_, _⟩⟩, ⟨⟨_, _⟩, ⟨_, _⟩, ⟨_, _⟩⟩⟩, ⟨⟨_, _⟩, ⟨_, _⟩, ⟨_, _⟩⟩⟩ = Po.rest))
  subst_vars; rfl
theorem kMotion (k : Int) (w : World) : Calls Tryz.prog 158 [.int .i64 k].toArray w (Rets (motV 166 167 168 k) w) := by
  refine yQ (n := 22) Tryz.func158 rfl rfl rfl ?_
  refine qJ ?_
  refine qZ ?_
  refine jY 2 ze197 rfl rfl rfl ?_; intro b2
  refine qU ?_
  refine qQ ?_
  refine qJ ?_
  refine qJ ?_
  refine qZ ?_
  refine qK (qY rfl) rfl rfl rfl ?_
  refine qU ?_
  refine qQ ?_
  refine zK ?_
  refine qJ ?_
  refine qJ ?_
  refine qZ ?_
  refine qK (opV_eql rfl rfl) rfl rfl rfl ?_
  refine qK (qW rfl) rfl rfl rfl ?_
  refine qU ?_
  refine qQ ?_
  refine jW rfl (fun hc4 => ?_) (fun hc4 => ?_)
  ·
    have e := of_decide_eq_true hc4
    refine zU ?_
    refine qQ ?_
    refine zV rfl (hc4) ?_
    refine qJ ?_
    refine qZ ?_
    refine qK (qY rfl) rfl rfl rfl ?_
    refine qK (uU rfl rfl (by first | exact zW ⟨by omega, by omega⟩ | rfl)) rfl rfl rfl ?_
    refine qK (opV_makeFunc rfl rfl) rfl rfl rfl ?_
    refine qK (jJ la197 rfl rfl) rfl rfl rfl ?_
    refine zZ 2 ty197 rfl rfl rfl rfl rfl rfl rfl rfl ?_
    refine qU ?_
    refine qQ ?_
    refine yK ?_
    refine kK ?_
    refine kQ ?_
    refine post_ret (rs := [.cell 2 197]) rfl (resC (yY 2 rfl rfl ty197 rfl) (resN)) rfl ?_
    intro w2 kn
    exact ⟨congrArg Ending.returned (by first | exact (mot_t (by omega)).symm | exact (mot_s (by omega)).symm | exact (mot_r (by omega) (by omega)).symm), kn.grow⟩
  ·
    have e := of_decide_eq_false hc4
    refine qJ ?_
    refine qZ ?_
    refine qK (opV_eql rfl rfl) rfl rfl rfl ?_
    refine qK (qW rfl) rfl rfl rfl ?_
    refine qU ?_
    refine qQ ?_
    refine jW rfl (fun hc4_2 => ?_) (fun hc4_2 => ?_)
    ·
      have e := of_decide_eq_true hc4_2
      refine zU ?_
      refine qQ ?_
      refine zV rfl (hc4_2) ?_
      refine qJ ?_
      refine qZ ?_
      refine qK (qY rfl) rfl rfl rfl ?_
      refine qK (uU rfl rfl (by first | exact zW ⟨by omega, by omega⟩ | rfl)) rfl rfl rfl ?_
      refine qK (opV_makeFunc rfl rfl) rfl rfl rfl ?_
      refine qK (jJ la197 rfl rfl) rfl rfl rfl ?_
      refine zZ 2 ty197 rfl rfl rfl rfl rfl rfl rfl rfl ?_
      refine qU ?_
      refine qQ ?_
      refine yK ?_
      refine kK ?_
      refine kQ ?_
      refine post_ret (rs := [.cell 2 197]) rfl (resC (yY 2 rfl rfl ty197 rfl) (resN)) rfl ?_
      intro w2 kn
      exact ⟨congrArg Ending.returned (by first | exact (mot_t (by omega)).symm | exact (mot_s (by omega)).symm | exact (mot_r (by omega) (by omega)).symm), kn.grow⟩
    ·
      have e := of_decide_eq_false hc4_2
      refine qZ ?_
      refine qK (opV_eql rfl rfl) rfl rfl rfl ?_
      refine qK (qW rfl) rfl rfl rfl ?_
      refine qU ?_
      refine qQ ?_
      refine jW rfl (fun hc4_3 => ?_) (fun hc4_3 => ?_)
      ·
        have e := of_decide_eq_true hc4_3
        refine qJ ?_
        refine qZ ?_
        refine qK (qY rfl) rfl rfl rfl ?_
        refine qK (uU rfl rfl (by first | exact zW ⟨by omega, by omega⟩ | rfl)) rfl rfl rfl ?_
        refine qK (opV_makeFunc rfl rfl) rfl rfl rfl ?_
        refine qK (jJ la197 rfl rfl) rfl rfl rfl ?_
        refine zZ 2 ty197 rfl rfl rfl rfl rfl rfl rfl rfl ?_
        refine qU ?_
        refine qQ ?_
        refine yK ?_
        refine kK ?_
        refine kQ ?_
        refine post_ret (rs := [.cell 2 197]) rfl (resC (yY 2 rfl rfl ty197 rfl) (resN)) rfl ?_
        intro w2 kn
        exact ⟨congrArg Ending.returned (by first | exact (mot_t (by omega)).symm | exact (mot_s (by omega)).symm | exact (mot_r (by omega) (by omega)).symm), kn.grow⟩
      ·
        have e := of_decide_eq_false hc4_3
        refine qJ ?_
        refine qJ ?_
        refine qZ ?_
        refine qK (opV_eql rfl rfl) rfl rfl rfl ?_
        refine qK (qW rfl) rfl rfl rfl ?_
        refine qU ?_
        refine qQ ?_
        refine jW rfl (fun hc12 => ?_) (fun hc12 => ?_)
        ·
          have e := of_decide_eq_true hc12
          refine zU ?_
          refine qQ ?_
          refine zV rfl (hc12) ?_
          refine qJ ?_
          refine qZ ?_
          refine qK (qY rfl) rfl rfl rfl ?_
          refine qK (uU rfl rfl (by first | exact zW ⟨by omega, by omega⟩ | rfl)) rfl rfl rfl ?_
          refine qK (opV_makeFunc rfl rfl) rfl rfl rfl ?_
          refine qK (jJ la197 rfl rfl) rfl rfl rfl ?_
          refine zZ 2 ty197 rfl rfl rfl rfl rfl rfl rfl rfl ?_
          refine qU ?_
          refine qQ ?_
          refine yK ?_
          refine kK ?_
          refine kQ ?_
          refine post_ret (rs := [.cell 2 197]) rfl (resC (yY 2 rfl rfl ty197 rfl) (resN)) rfl ?_
          intro w2 kn
          exact ⟨congrArg Ending.returned (by first | exact (mot_t (by omega)).symm | exact (mot_s (by omega)).symm | exact (mot_r (by omega) (by omega)).symm), kn.grow⟩
        ·
          have e := of_decide_eq_false hc12
          refine qJ ?_
          refine qZ ?_
          refine qK (opV_eql rfl rfl) rfl rfl rfl ?_
          refine qK (qW rfl) rfl rfl rfl ?_
          refine qU ?_
          refine qQ ?_
          refine jW rfl (fun hc12_2 => ?_) (fun hc12_2 => ?_)
          ·
            have e := of_decide_eq_true hc12_2
            refine zU ?_
            refine qQ ?_
            refine zV rfl (hc12_2) ?_
            refine qJ ?_
            refine qZ ?_
            refine qK (qY rfl) rfl rfl rfl ?_
            refine qK (uU rfl rfl (by first | exact zW ⟨by omega, by omega⟩ | rfl)) rfl rfl rfl ?_
            refine qK (opV_makeFunc rfl rfl) rfl rfl rfl ?_
            refine qK (jJ la197 rfl rfl) rfl rfl rfl ?_
            refine zZ 2 ty197 rfl rfl rfl rfl rfl rfl rfl rfl ?_
            refine qU ?_
            refine qQ ?_
            refine yK ?_
            refine kK ?_
            refine kQ ?_
            refine post_ret (rs := [.cell 2 197]) rfl (resC (yY 2 rfl rfl ty197 rfl) (resN)) rfl ?_
            intro w2 kn
            exact ⟨congrArg Ending.returned (by first | exact (mot_t (by omega)).symm | exact (mot_s (by omega)).symm | exact (mot_r (by omega) (by omega)).symm), kn.grow⟩
          ·
            have e := of_decide_eq_false hc12_2
            refine qZ ?_
            refine qK (opV_eql rfl rfl) rfl rfl rfl ?_
            refine qK (qW rfl) rfl rfl rfl ?_
            refine qU ?_
            refine qQ ?_
            refine jW rfl (fun hc12_3 => ?_) (fun hc12_3 => ?_)
            ·
              have e := of_decide_eq_true hc12_3
              refine qJ ?_
              refine qZ ?_
              refine qK (qY rfl) rfl rfl rfl ?_
              refine qK (uU rfl rfl (by first | exact zW ⟨by omega, by omega⟩ | rfl)) rfl rfl rfl ?_
              refine qK (opV_makeFunc rfl rfl) rfl rfl rfl ?_
              refine qK (jJ la197 rfl rfl) rfl rfl rfl ?_
              refine zZ 2 ty197 rfl rfl rfl rfl rfl rfl rfl rfl ?_
              refine qU ?_
              refine qQ ?_
              refine yK ?_
              refine kK ?_
              refine kQ ?_
              refine post_ret (rs := [.cell 2 197]) rfl (resC (yY 2 rfl rfl ty197 rfl) (resN)) rfl ?_
              intro w2 kn
              exact ⟨congrArg Ending.returned (by first | exact (mot_t (by omega)).symm | exact (mot_s (by omega)).symm | exact (mot_r (by omega) (by omega)).symm), kn.grow⟩
            ·
              have e := of_decide_eq_false hc12_3
              refine zU ?_
              refine qV ?_
              refine qQ ?_
              refine qJ ?_
              refine qZ ?_
              refine qK (opV_makeFunc rfl rfl) rfl rfl rfl ?_
              refine qK (jJ la197 rfl rfl) rfl rfl rfl ?_
              refine zZ 2 ty197 rfl rfl rfl rfl rfl rfl rfl rfl ?_
              refine qU ?_
              refine qQ ?_
              refine yK ?_
              refine post_ret (rs := [.cell 2 197]) rfl (resC (yY 2 rfl rfl ty197 rfl) (resN)) rfl ?_
              intro w2 kn
              exact ⟨congrArg Ending.returned (by first | exact (mot_t (by omega)).symm | exact (mot_s (by omega)).symm | exact (mot_r (by omega) (by omega)).symm), kn.grow⟩
theorem en_t : Enters Tryz.prog 166 := yW Tryz.func166 (by kernel_rfl) (by kernel_rfl)
theorem en_s : Enters Tryz.prog 167 := yW Tryz.func167 (by kernel_rfl) (by kernel_rfl)
theorem en_r : Enters Tryz.prog 168 := yW Tryz.func168 (by kernel_rfl) (by kernel_rfl)
theorem en_mot (k : Int) : Enters Tryz.prog (if k = 1 ∨ k = 2 ∨ k = 3 then 166 else if k = 4 ∨ k = 5 ∨ k = 6 then 167 else 168) := by
  by_cases h : k = 1 ∨ k = 2 ∨ k = 3
  · rw [if_pos h]; exact en_t
  · by_cases h2 : k = 4 ∨ k = 5 ∨ k = 6
    · rw [if_neg h, if_pos h2]; exact en_s
    · rw [if_neg h, if_neg h2]; exact en_r
theorem kMove (k a0 a1 : Int) (w : World) : Calls Tryz.prog (if k = 1 ∨ k = 2 ∨ k = 3 then 166 else if k = 4 ∨ k = 5 ∨ k = 6 then 167 else 168) [.int .i64 (if k = 1 ∨ k = 2 ∨ k = 3 then k - 1 else if k = 4 ∨ k = 5 ∨ k = 6 then k - 4 else 0), .agg #[.int .i64 a0, .int .i64 a1]].toArray w (Rets (po (jMot k ⟨a0, a1⟩)) w) := by
  by_cases h : k = 1 ∨ k = 2 ∨ k = 3
  · rw [if_pos h, if_pos h, jMot_t h]; exact kTurn _ _ _ w
  · by_cases h2 : k = 4 ∨ k = 5 ∨ k = 6
    · rw [if_neg h, if_pos h2, if_neg h, if_pos h2, jMot_s h2]; exact kSlide _ _ _ (by omega) w
    · rw [if_neg h, if_neg h2, if_neg h, if_neg h2, jMot_r h h2]; exact kRest _ _ _ w
theorem kJoint (a0 a1 : Int) (nm : ByteArray) (kind par ox oy oz jlo jhi we spd acc tq : Int) (w : World) : Calls Tryz.prog 140 [.agg #[.string nm, .int .i64 kind, .int .i64 par, .int .i64 ox, .int .i64 oy, .int .i64 oz, .int .i64 jlo, .int .i64 jhi, .int .i64 we, .int .i64 spd, .int .i64 acc, .int .i64 tq], .agg #[.int .i64 a0, .int .i64 a1]].toArray w (Rets (po (jPose kind ⟨ox, oy, oz⟩ (⟨a0, a1⟩ : Iv))) (w)) := by
  refine yQ (n := 16) Tryz.func140 rfl rfl rfl ?_
  refine qJ ?_
  refine qZ ?_
  refine kW 2 rfl rfl rfl rfl ?_; intro b2
  refine kW 3 rfl rfl rfl rfl ?_; intro b3
  refine jY 4 ze134 rfl rfl rfl ?_; intro b4
  refine qU ?_
  refine qQ ?_
  refine qJ ?_
  refine yU 11 mo (by kernel_rfl) ?_
  simp only [List.take_succ_cons, List.take_zero, List.drop_succ_cons, List.drop_zero]
  refine qG (qH fa87_3 rfl) rfl rfl rfl ?_
  refine qG (zQ 2 ty29 rfl rfl rfl) rfl rfl rfl ?_
  refine yG (F := v3) (zY en75 rfl (fun w _ => mPoint _ _ _  w)) rfl rfl rfl ?_; intro r7 hr7
  refine yG (F := po) (zY en157 rfl (fun w _ => pShift _ _ _ _ _ _  w)) rfl rfl rfl ?_; intro r8 hr8
  refine qG (qH fa87_1 rfl) rfl rfl rfl ?_
  refine qG (zJ 2 ty3 rfl rfl rfl) rfl rfl rfl ?_
  refine yG (F := motV 166 167 168) (zY en158 rfl (fun w _ => kMotion _  w)) rfl rfl rfl ?_; intro r11 hr11
  refine qG (opV_field1 fl197_0 rfl rfl) rfl rfl rfl ?_
  refine qG (zQ 3 ty88 rfl rfl rfl) rfl rfl rfl ?_
  refine yG (F := po) (opV_callV (en_mot _) rfl rfl rfl (fun w _ => kMove _ _ _ w)) rfl rfl rfl ?_; intro r14 hr14
  refine yG (F := po) (zY en141 rfl (fun w _ => pCompose _ _ _ _ _ _ _ _ _ _ _ _ _ _ _ _ _ _ _ _ _ _ _ _ _ _ _ _ _ _ _ _ _ _ _ _ _ _ _ _ _ _ _ _ _ _ _ _  w)) rfl rfl rfl ?_; intro r15 hr15
  refine jK ?_
  refine yV ?_
  refine zZ 4 ty134 rfl rfl rfl rfl rfl rfl rfl rfl ?_
  refine qU ?_
  refine qQ ?_
  refine yK ?_
  refine zH (rs := [.cell 4 134]) rfl (resC (yY 4 rfl rfl ty134 rfl) (resN)) (congrArg (po) (?_ : ⟨⟨⟨⟨_, _⟩, ⟨_, _⟩, ⟨_, _⟩⟩, ⟨⟨_, _⟩, ⟨_, _⟩, ⟨_, _⟩⟩, ⟨⟨_, _⟩, ⟨_, _⟩, ⟨_, _⟩⟩⟩, ⟨⟨_, _⟩, ⟨_, _⟩, ⟨_, _⟩⟩⟩ = jPose kind ⟨ox, oy, oz⟩ (⟨a0, a1⟩ : Iv)))
  have e8 : r8 = Po.shift r7 := hr8
  have e15 : r15 = Po.mul r8 r14 := hr15
  show r15 = _
  rw [e15, e8, hr7, hr14, hr11]
  rfl
end Go.Proofs.YtnlnbnjnapofmaaGreat
namespace Go.Sx
def pc (p : Po) : List Value := [.int .i64 p.r.x.x.lo, .int .i64 p.r.x.x.hi, .int .i64 p.r.x.y.lo, .int .i64 p.r.x.y.hi, .int .i64 p.r.x.z.lo, .int .i64 p.r.x.z.hi, .int .i64 p.r.y.x.lo, .int .i64 p.r.y.x.hi, .int .i64 p.r.y.y.lo, .int .i64 p.r.y.y.hi, .int .i64 p.r.y.z.lo, .int .i64 p.r.y.z.hi, .int .i64 p.r.z.x.lo, .int .i64 p.r.z.x.hi, .int .i64 p.r.z.y.lo, .int .i64 p.r.z.y.hi, .int .i64 p.r.z.z.lo, .int .i64 p.r.z.z.hi, .int .i64 p.t.x.lo, .int .i64 p.t.x.hi, .int .i64 p.t.y.lo, .int .i64 p.t.y.hi, .int .i64 p.t.z.lo, .int .i64 p.t.z.hi]
def zRow : List Value := List.replicate 24 (.int .i64 0)
def lkP (ps : List Po) (j : J) (a : Iv) : Po := if j.parent = -1 then jPose j.kind j.off a else Po.mul (ps.getD j.parent.toNat Po.rest) (jPose j.kind j.off a)
def lks (js : List J) (bx : List Iv) : Nat → List Po
  | 0 => []
  | k + 1 => match js[k]?, bx[k]? with
    | some j, some a => lks js bx k ++ [lkP (lks js bx k) j a]
    | _, _ => lks js bx k
theorem lks_succ {js : List J} {bx : List Iv} {k : Nat} {j : J} {a : Iv} (h1 : js[k]? = some j) (h2 : bx[k]? = some a) : lks js bx (k + 1) = lks js bx k ++ [lkP (lks js bx k) j a] := by
  simp only [lks, h1, h2]
def lkR (ps : List Po) (m : Nat) : List (List Value) := ps.map pc ++ List.replicate m zRow
theorem lkR_set {ps : List Po} {m : Nat} (v : List Value) : (lkR ps (m + 1)).set ps.length v = ps.map pc ++ v :: List.replicate m zRow := by
  unfold lkR
  rw [List.set_append_right _ _ (by simp)]
  simp [List.replicate_succ]
theorem lkR_set2 {ps : List Po} {m : Nat} (u v : List Value) : (ps.map pc ++ u :: List.replicate m zRow).set ps.length v = ps.map pc ++ v :: List.replicate m zRow := by
  rw [List.set_append_right _ _ (by simp)]
  simp
theorem lkR_done {ps : List Po} {m : Nat} (p : Po) : ps.map pc ++ pc p :: List.replicate m zRow = lkR (ps ++ [p]) m := by
  unfold lkR
  simp
theorem lkR_at {ps : List Po} {m i : Nat} {u : List Value} (h : i < ps.length) : (ps.map pc ++ u :: List.replicate m zRow)[i]? = some (pc (ps.getD i Po.rest)) := by
  rw [List.getElem?_append_left (by simpa using h), List.getElem?_map]
  simp [List.getD_eq_getElem?_getD, h]
theorem lkR_me {ps : List Po} {m : Nat} {u : List Value} : (ps.map pc ++ u :: List.replicate m zRow)[ps.length]? = some u := by
  rw [List.getElem?_append_right (by simp)]
  simp
end Go.Sx
namespace Go.Proofs.YtnlnbnjnapofmaaGreat
open Go.Sx
theorem app122 : appB Tryz.prog 122 134 24 192 = true := by kernel_rfl
theorem en140 : Enters Tryz.prog 140 := yW Tryz.func140 (by kernel_rfl) (by kernel_rfl)
theorem kLinks  (aj am ab : Option Addr) (cj nm cm cb n : Nat) (js : List J) (bx : List Iv) (hn : n ≤ 1000) (hjn : js.length = n) (hbn : bx.length = n) (hpar : ∀ (k : Nat) (j : J), js[k]? = some j → -1 ≤ j.parent ∧ j.parent < k) (w : World) (hS : SlcIs 12 aj (js.map jc) w) (hT : SlcIs 2 ab (bx.map ivc) w) : Calls Tryz.prog 105 [.agg #[.slice aj n cj, .slice am nm cm], .slice ab n cb].toArray w (RetsF (X := Nat) (fun _ => True) (fun b => .slice (some ⟨b, 0, none⟩) n n) (fun b => SlcIs 24 (some ⟨b, 0, none⟩) ((lks js bx n).map pc)) w) := by
  refine yQ (n := 47) Tryz.func105 rfl rfl rfl ?_
  refine qJ ?_
  refine qZ ?_
  refine kW 2 rfl rfl rfl rfl ?_; intro b2
  refine qK (qW rfl) rfl rfl rfl ?_
  refine qU ?_
  refine qQ ?_
  refine qJ ?_
  refine qZ ?_
  refine qK (qH fa26_0 rfl) rfl rfl rfl ?_
  refine qK (zJ 2 ty23 rfl rfl rfl) rfl rfl rfl ?_
  refine qK (opV_len_slice sl23 rfl) rfl rfl rfl ?_
  refine doL_make 11 (makeB_of app122 ze134) rfl (by omega) (by omega) rfl rfl ?_; intro b11
  refine qK (qW rfl) rfl rfl rfl ?_
  refine qU ?_
  refine qQ ?_
  refine qJ ?_
  refine qJ ?_
  refine qZ ?_
  refine qK (qH fa26_0 rfl) rfl rfl rfl ?_
  refine qK (zJ 2 ty23 rfl rfl rfl) rfl rfl rfl ?_
  refine qK (opV_len_slice sl23 rfl) rfl rfl rfl ?_
  refine qK (qY rfl) rfl rfl rfl ?_
  refine qU ?_
  refine qQ ?_
  refine zK ?_
  refine doC_loopK [1, 2, 5, 13, 14] [2] (α := Nat × List Po) (fun x => n - x.1) (fun x => x.1 ≤ n ∧ lks js bx x.1 = x.2 ∧ x.2.length = x.1) (fun x => ⟨w, [(11, (· = b11), RowsF b11 24 134 (lkR x.2 (n - x.1)))]⟩) (fun x => [(15, .int .i64 (x.1 : Int))]) (fun _ => []) (0, []) rfl rfl ?_ ?_ ?_ ?_ rfl ?_
  ·
    exact ⟨Nat.zero_le _, rfl, rfl⟩
  ·
    exact rfl
  ·
    repeat' first | exact trivial | exact True.intro | refine ⟨rfl, ?_⟩
  ·
    repeat' first | exact trivial | exact True.intro | refine ⟨rfl, ?_⟩
  rintro ⟨k, ps⟩ ⟨hk, hps, hlen⟩
  dsimp only at hk hps hlen ⊢
  subst hlen
  refine qJ ?_
  refine qZ ?_
  refine qK (yX rfl rfl) rfl rfl rfl ?_
  refine qU ?_
  refine qQ ?_
  refine qJ ?_
  refine jW rfl (fun hc16 => ?_) (fun hc16 => ?_)
  ·
    have h2 : ps.length < n := by have := of_decide_eq_true hc16; omega
    obtain ⟨j, hjk⟩ : ∃ j, js[ps.length]? = some j := ⟨_, List.getElem?_eq_getElem (by omega)⟩
    obtain ⟨a, hak⟩ : ∃ a, bx[ps.length]? = some a := ⟨_, List.getElem?_eq_getElem (by omega)⟩
    have hj : (js.map jc)[ps.length]? = some (jc j) := by rw [List.getElem?_map, hjk]; rfl
    have ha : (bx.map ivc)[ps.length]? = some (ivc a) := by rw [List.getElem?_map, hak]; rfl
    have hpj := hpar _ j hjk
    obtain ⟨m, hm⟩ : ∃ m, n - ps.length = m + 1 := ⟨n - ps.length - 1, by omega⟩
    rw [hm]
    have hz : (lkR ps (m + 1))[ps.length]? = some zRow := by unfold lkR; rw [List.getElem?_append_right (by simp)]; simp
    refine zU ?_
    refine qQ ?_
    refine qJ ?_
    refine zK ?_
    refine qJ ?_
    refine qZ ?_
    refine qK (qY rfl) rfl rfl rfl ?_
    refine qK (opV_indexS (e := 87) (holds_base hS) (by kernel_rfl) rfl rfl rfl hj h2) rfl rfl rfl ?_
    refine qK (opV_loadSA (vs := [.string j.name, .int .i64 j.kind, .int .i64 j.parent, .int .i64 j.off.x, .int .i64 j.off.y, .int .i64 j.off.z, .int .i64 j.lo, .int .i64 j.hi, .int .i64 j.weight, .int .i64 j.speed, .int .i64 j.accel, .int .i64 j.torque]) ps.length 0 (holds_base hS) hj ty87 rfl rfl) rfl rfl rfl ?_
    refine jY 7 ze87 rfl rfl rfl ?_; intro b7
    refine qK (qW rfl) rfl rfl rfl ?_
    refine zZ 7 ty87 rfl rfl rfl rfl rfl rfl rfl rfl ?_
    refine qU ?_
    refine qQ ?_
    refine qJ ?_
    refine yU 8 mo (by kernel_rfl) ?_
    simp only [List.take_succ_cons, List.take_zero, List.drop_succ_cons, List.drop_zero]
    refine qG (qY rfl) rfl rfl rfl ?_
    refine qG (qY rfl) rfl rfl rfl ?_
    refine qG (zQ 7 ty87 rfl rfl rfl) rfl rfl rfl ?_
    refine qG (qY rfl) rfl rfl rfl ?_
    refine qG (qY rfl) rfl rfl rfl ?_
    refine qG (opV_indexS (e := 88) (holds_base hT) (by kernel_rfl) rfl rfl rfl ha h2) rfl rfl rfl ?_
    refine qG (opV_loadSA (vs := [.int .i64 a.lo, .int .i64 a.hi]) ps.length 0 (holds_base hT) ha ty88 rfl rfl) rfl rfl rfl ?_
    refine yG (F := po) (zY en140 rfl (fun w _ => kJoint _ _ _ _ _ _ _ _ _ _ _ _ _ _ w)) rfl rfl rfl ?_; intro r27 hr27
    refine jK ?_
    refine yV ?_
    refine qK (opV_indexS (e := 134) ((holds_r (id := 11) rfl).imp rowsF_slc) (by kernel_rfl) rfl rfl rfl hz h2) rfl rfl rfl ?_
    refine doL_storeRow (vs := pc r27) (j := ps.length) 11 ty134 rfl rfl rfl (by simp [lkR]) rfl rfl rfl rfl ?_; intro R28 hR28
    obtain rfl := Option.some.inj hR28
    rw [lkR_set]
    refine qU ?_
    refine qQ ?_
    refine qJ ?_
    refine qZ ?_
    refine qK (qH fa87_2 rfl) rfl rfl rfl ?_
    refine qK (zJ 7 ty3 rfl rfl rfl) rfl rfl rfl ?_
    refine qK (opV_neq rfl rfl) rfl rfl rfl ?_
    refine qU ?_
    refine qQ ?_
    refine jW rfl (fun hc31 => ?_) (fun hc31 => ?_)
    ·
      have hp : ¬ j.parent = -1 := by simpa using hc31
      have hpl : j.parent.toNat < ps.length := by omega
      have hpn : j.parent = ((j.parent.toNat : Nat) : Int) := by omega
      refine yU 12 mo (by kernel_rfl) ?_
      simp only [List.take_succ_cons, List.take_zero, List.drop_succ_cons, List.drop_zero]
      refine qG (qY rfl) rfl rfl rfl ?_
      refine qG (qY rfl) rfl rfl rfl ?_
      refine qG (qY rfl) rfl rfl rfl ?_
      refine qG (qH fa87_2 rfl) rfl rfl rfl ?_
      refine qG (zJ 7 ty3 rfl rfl rfl) rfl rfl rfl ?_
      refine qG (opV_indexS (e := 134) ((holds_r (id := 11) rfl).imp rowsF_slc) (by kernel_rfl) rfl rfl hpn (lkR_at hpl) (by omega)) rfl rfl rfl ?_
      refine qG (opV_loadSA (vs := pc (ps.getD j.parent.toNat Po.rest)) j.parent.toNat 0 ((holds_r (id := 11) rfl).imp rowsF_slc) (lkR_at hpl) ty134 rfl rfl) rfl rfl rfl ?_
      refine qG (qY rfl) rfl rfl rfl ?_
      refine qG (qY rfl) rfl rfl rfl ?_
      refine qG (opV_indexS (e := 134) ((holds_r (id := 11) rfl).imp rowsF_slc) (by kernel_rfl) rfl rfl rfl lkR_me h2) rfl rfl rfl ?_
      refine qG (opV_loadSA (vs := pc r27) ps.length 0 ((holds_r (id := 11) rfl).imp rowsF_slc) lkR_me ty134 rfl rfl) rfl rfl rfl ?_
      refine yG (F := po) (zY en141 rfl (fun w _ => pCompose _ _ _ _ _ _ _ _ _ _ _ _ _ _ _ _ _ _ _ _ _ _ _ _ _ _ _ _ _ _ _ _ _ _ _ _ _ _ _ _ _ _ _ _ _ _ _ _  w)) rfl rfl rfl ?_; intro r43 hr43
      refine jK ?_
      refine yV ?_
      refine qK (opV_indexS (e := 134) ((holds_r (id := 11) rfl).imp rowsF_slc) (by kernel_rfl) rfl rfl rfl lkR_me h2) rfl rfl rfl ?_
      refine doL_storeRow (vs := pc r43) (j := ps.length) 11 ty134 rfl rfl rfl (by simp [lkR]) rfl rfl rfl rfl ?_; intro R44 hR44
      obtain rfl := Option.some.inj hR44
      rw [lkR_set2]
      refine qU ?_
      refine qV ?_
      refine qQ ?_
      refine qZ ?_
      refine qK (yZ rfl rfl (inc_nat (by omega))) rfl rfl rfl ?_
      refine qK (qY rfl) rfl rfl rfl ?_
      refine qU ?_
      refine post_again (ps.length + 1, ps ++ [r43]) (by refine ⟨?_, ?_, ?_⟩ <;> dsimp only; omega; rw [lks_succ hjk hak, hps]; exact congrArg (fun x => ps ++ [x]) ((if_neg hp).trans (by rw [show r43 = Po.mul (ps.getD j.parent.toNat Po.rest) r27 from hr43, hr27]; try rfl)); simp) (by show n - (ps.length + 1) < n - ps.length; omega) (by dsimp only; rw [show n - (ps.length + 1) = m by omega, ← lkR_done]; try rfl) ?_ ?_ rfl
      repeat' first | exact trivial | exact True.intro | refine ⟨rfl, ?_⟩
    ·
      have hp : j.parent = -1 := by simpa using hc31
      refine zU ?_
      refine qV ?_
      refine qQ ?_
      refine qZ ?_
      refine qK (yZ rfl rfl (inc_nat (by omega))) rfl rfl rfl ?_
      refine qK (qY rfl) rfl rfl rfl ?_
      refine qU ?_
      refine post_again (ps.length + 1, ps ++ [r27]) (by refine ⟨?_, ?_, ?_⟩ <;> dsimp only; omega; rw [lks_succ hjk hak, hps]; exact congrArg (fun x => ps ++ [x]) ((if_pos hp).trans hr27.symm); simp) (by show n - (ps.length + 1) < n - ps.length; omega) (by dsimp only; rw [show n - (ps.length + 1) = m by omega, ← lkR_done]; try rfl) ?_ ?_ rfl
      repeat' first | exact trivial | exact True.intro | refine ⟨rfl, ?_⟩
  ·
    have h2 : ps.length = n := by have := of_decide_eq_false hc16; omega
    refine uZ ?_
    refine zX ?_
    refine zX ?_
    refine yH ?_
    refine qQ ?_
    refine qJ ?_
    refine qZ ?_
    refine qK (qY rfl) rfl rfl rfl ?_
    refine qK (qW rfl) rfl rfl rfl ?_
    refine qU ?_
    refine qQ ?_
    refine yK ?_
    refine post_ret (rs := [.tmp 4]) rfl (resC (jX rfl) (resN)) rfl ?_
    intro w2 k2
    obtain ⟨_, q2, q3⟩ := k2.facts _ List.mem_cons_self
    refine ⟨b11, trivial, rfl, k2.grow, ownD _, slc_dep _ _ _, fun z hz => ?_, ?_⟩
    · obtain ⟨ad, h1, h2⟩ := hz
      cases h1
      subst h2
      exact ⟨(q2 _ rfl).1, (q2 _ rfl).2.1⟩
    · have q4 := rowsF_slc _ q3
      rw [← h2, hps]
      simpa [lkR, h2] using q4
end Go.Proofs.YtnlnbnjnapofmaaGreat
namespace Go.Proofs.YtnlnbnjnapofmaaGreat
open Go.Sx
theorem en104 : Enters Tryz.prog 104 := yW Tryz.func104 (by kernel_rfl) (by kernel_rfl)
theorem en67 : Enters Tryz.prog 67 := yW Tryz.func67 (by kernel_rfl) (by kernel_rfl)
theorem en105 : Enters Tryz.prog 105 := yW Tryz.func105 (by kernel_rfl) (by kernel_rfl)
theorem kLinksAll  (aj am ab : Option Addr) (cj nm cm cb n : Nat) (js : List J) (l : List Ms) (bx : List Iv) (hn : 1 ≤ n ∧ n ≤ 10) (hm : nm ≤ 32) (hjn : js.length = n) (hln : l.length = nm) (hbn : bx.length = n) (hJ : ∀ (i : Nat) (j : J), js[i]? = some j → JOK js i j) (hv : ∀ m ∈ l, MB n m) (hvb : ∀ a ∈ bx, Iv.valid a = true) (w : World) (hS : SlcIs 12 aj (js.map jc) w) (hM : SlcIs 5 am (l.map mc) w) (hT : SlcIs 2 ab (bx.map ivc) w) : Calls Tryz.prog 73 [.agg #[.slice aj n cj, .slice am nm cm], .slice ab n cb].toArray w (RetsF (X := Nat) (fun _ => True) (fun b => .slice (some ⟨b, 0, none⟩) n n) (fun b => SlcIs 24 (some ⟨b, 0, none⟩) ((lks js bx n).map pc)) w) := by
  refine yQ (n := 17) Tryz.func73 rfl rfl rfl ?_
  refine qJ ?_
  refine qZ ?_
  refine kW 2 rfl rfl rfl rfl ?_; intro b2
  refine qK (qW rfl) rfl rfl rfl ?_
  refine qU ?_
  refine qQ ?_
  refine qJ ?_
  refine qJ ?_
  refine qZ ?_
  refine qK (zQ 2 ty26 rfl rfl rfl) rfl rfl rfl ?_
  refine qK (qY rfl) rfl rfl rfl ?_
  refine kJ (F := vB) (zY en104 rfl (fun w' k => kIsBox aj am ab cj nm cm cb n bx (by omega) hbn hvb w' (slc_grow hT k.grow))) rfl rfl rfl ?_; intro r7 hr7
  refine qK (opV_not rfl) rfl rfl rfl ?_
  refine qK (qY rfl) rfl rfl rfl ?_
  refine doL_false 9 rfl (by rw [hr7]; rfl) ?_
  refine qK (zQ 2 ty26 rfl rfl rfl) rfl rfl rfl ?_
  refine kJ (F := vI) (zY en67 rfl (fun w' k => cCheck aj am cj nm cm n js l hn hm hjn hln hJ hv w' (slc_grow hS k.grow) (slc_grow hM k.grow))) rfl rfl rfl ?_; intro r11 hr11
  refine qK (opV_neq rfl rfl) rfl rfl rfl ?_
  refine qK (uQ rfl rfl rfl rfl) rfl rfl rfl ?_
  refine qU ?_
  refine qQ ?_
  refine jV rfl (by rw [hr11]; rfl) ?_
  refine zU ?_
  refine qQ ?_
  refine qJ ?_
  refine qZ ?_
  refine qK (zQ 2 ty26 rfl rfl rfl) rfl rfl rfl ?_
  refine qK (qY rfl) rfl rfl rfl ?_
  refine doL_told 16 en105 rfl (fun w' k => kLinks aj am ab cj nm cm cb n js bx (by omega) hjn hbn (fun i j hj => by obtain ⟨_, _, _, _, _, _, _, h, _⟩ := hJ i j hj; exact h) w' (slc_grow hS k.grow) (slc_grow hT k.grow)) rfl rfl ?_; intro x16 Dx16 _
  refine qK (qW rfl) rfl rfl rfl ?_
  refine qU ?_
  refine qQ ?_
  refine yK ?_
  refine post_ret (rs := [.tmp 4]) rfl (resC (jX rfl) (resN)) rfl ?_
  intro w2 k2
  obtain ⟨p1, p2, p3⟩ := k2.facts _ List.mem_cons_self
  exact ⟨x16, trivial, rfl, k2.grow, _, p1, fun z hz => ⟨(p2 z hz).1, (p2 z hz).2.1⟩, p3⟩
end Go.Proofs.YtnlnbnjnapofmaaGreat
namespace Go.Proofs.YtnlnbnjnapofmaaGreat
open Go.Sx
theorem en36 : Enters Tryz.prog 36 := yW Tryz.func36 (by kernel_rfl) (by kernel_rfl)
theorem app34 : appB Tryz.prog 34 88 2 16 = true := by kernel_rfl
theorem mkBox (lv : Value) (l : List Int) (aj am : Option Addr) (cj nm cm : Nat) (js : List J) (hn : js.length ≤ 1000) (hjs : ∀ j ∈ js, JB j) (w : World) (hl : IntsAt w w.heap.size lv l) (hS : SlcIs 12 aj (js.map jc) w) : Calls Tryz.prog 12 [.agg #[.slice aj js.length cj, .slice am nm cm], lv].toArray w (RetsF (X := Option Addr × Nat) (fun x => js.length ≤ x.2) (fun x => .slice x.1 js.length x.2) (fun x => SlcIs 2 x.1 ((bxs l js js.length).1.map ivc)) w) := by
  refine yQ (n := 68) Tryz.func12 rfl rfl rfl ?_
  refine qJ ?_
  refine qZ ?_
  refine kW 2 rfl rfl rfl rfl ?_; intro b2
  refine qK (qW rfl) rfl rfl rfl ?_
  refine qU ?_
  refine qQ ?_
  refine qJ ?_
  refine qZ ?_
  refine qK (qY rfl) rfl rfl rfl ?_
  refine doL_callNew 13 en36 rfl (fun w' k => mFrom w' (intsAt_grow hl k.grow (Nat.le_refl _))) rfl rfl ?_; intro b13
  refine qK (qW rfl) rfl rfl rfl ?_
  refine qU ?_
  refine qQ ?_
  refine qJ ?_
  refine qZ ?_
  refine qK (qW rfl) rfl rfl rfl ?_
  refine qU ?_
  refine qQ ?_
  refine qJ ?_
  refine qJ ?_
  refine doC_own 100 88 2 ?_
  refine qZ ?_
  refine qK (qW rfl) rfl rfl rfl ?_
  refine qU ?_
  refine qQ ?_
  refine zK ?_
  refine doC_loopK [2, 5] [2] (α := Nat × Nat × Option Addr × Nat × List Iv) (fun x => js.length - x.1) (fun x => x.1 ≤ js.length ∧ bxs l js x.1 = (x.2.2.2.2, x.2.1) ∧ x.2.2.2.2.length = x.1) (fun x => ⟨w, [(100, ownD x.2.2.1, OwnF 0 88 2 x.2.2.1 x.2.2.2.1 x.1 (ivC x.2.2.2.2))]⟩) (fun x => [(6, .slice x.2.2.1 x.1 x.2.2.2.1), (7, .int .i64 (x.1 : Int))]) (fun x => [(13, b13, srcC lv l x.2.1, 116)]) (0, 0, none, 0, []) rfl rfl ?_ ?_ ?_ ?_ rfl ?_
  ·
    exact ⟨Nat.zero_le _, rfl, rfl⟩
  ·
    exact rfl
  ·
    repeat' first | exact trivial | exact True.intro | refine ⟨rfl, ?_⟩
  ·
    repeat' first | exact trivial | exact True.intro | refine ⟨rfl, ?_⟩
  rintro ⟨k, q, a, cap, rows⟩ ⟨hk, hsh, hlen⟩
  dsimp only at hk hsh hlen ⊢
  refine qJ ?_
  refine qJ ?_
  refine qZ ?_
  refine qK (qY rfl) rfl rfl rfl ?_
  refine qK (qH fa26_0 rfl) rfl rfl rfl ?_
  refine qK (zJ 2 ty23 rfl rfl rfl) rfl rfl rfl ?_
  refine qK (opV_len_slice sl23 rfl) rfl rfl rfl ?_
  refine qK (yX rfl rfl) rfl rfl rfl ?_
  refine qU ?_
  refine qQ ?_
  refine jW rfl (fun hc18 => ?_) (fun hc18 => ?_)
  ·
    have h2 : k < js.length := by have := of_decide_eq_true hc18; omega
    obtain ⟨j, hjk⟩ : ∃ j, js[k]? = some j := ⟨_, List.getElem?_eq_getElem h2⟩
    have hj : (js.map jc)[k]? = some (jc j) := by rw [List.getElem?_map, hjk]; rfl
    obtain ⟨bj1, bj2, bj3⟩ := hjs j (List.mem_of_getElem? hjk)
    refine zU ?_
    refine qQ ?_
    refine qJ ?_
    refine zK ?_
    refine qJ ?_
    refine doC_all mo (by kernel_rfl) ?_
    refine qG (qH fa26_0 rfl) rfl rfl rfl ?_
    refine qG (zJ 2 ty23 rfl rfl rfl) rfl rfl rfl ?_
    refine qG (qY rfl) rfl rfl rfl ?_
    refine qG (opV_indexS (e := 87) (holds_base hS) (by kernel_rfl) rfl rfl rfl hj h2) rfl rfl rfl ?_
    refine qG (opV_fieldS (holds_base hS) hj fa87_4 rfl) rfl rfl rfl ?_
    refine qG (opV_loadS1 k 6 (holds_base hS) hj ty2 rfl rfl) rfl rfl rfl ?_
    refine qG (qH fa26_0 rfl) rfl rfl rfl ?_
    refine qG (zJ 2 ty23 rfl rfl rfl) rfl rfl rfl ?_
    refine qG (qY rfl) rfl rfl rfl ?_
    refine qG (opV_indexS (e := 87) (holds_base hS) (by kernel_rfl) rfl rfl rfl hj h2) rfl rfl rfl ?_
    refine qG (opV_fieldS (holds_base hS) hj fa87_5 rfl) rfl rfl rfl ?_
    refine qG (opV_loadS1 k 7 (holds_base hS) hj ty2 rfl rfl) rfl rfl rfl ?_
    refine qG (qW rfl) rfl rfl rfl ?_
    refine qG (qW rfl) rfl rfl rfl ?_
    refine jK ?_
    refine qQ ?_
    refine qJ ?_
    refine qZ ?_
    refine qK (qY rfl) rfl rfl rfl ?_
    refine qK (qY rfl) rfl rfl rfl ?_
    refine qK (qY rfl) rfl rfl rfl ?_
    refine qK (qY rfl) rfl rfl rfl ?_
    refine qK (uU rfl rfl (by first | exact zW ⟨by omega, by omega⟩ | rfl)) rfl rfl rfl ?_
    refine qK (yZ rfl rfl (by first | exact zW ⟨by omega, by omega⟩ | rfl)) rfl rfl rfl ?_
    refine doL_srcB (F := vI) 13 hl rfl en37 rfl (fun w' h => srcNext _ (by first | omega | assumption | (unfold In64; omega) | decide) w' h) rfl rfl rfl ?_; intro r39 hr39
    have br39 := srcR_b hr39 (by first | decide | omega)
    refine qK (yZ rfl rfl (by first | exact zW ⟨by omega, by omega⟩ | rfl)) rfl rfl rfl ?_
    refine qK (qW rfl) rfl rfl rfl ?_
    refine qU ?_
    refine qQ ?_
    refine qJ ?_
    refine qZ ?_
    refine qK (qW rfl) rfl rfl rfl ?_
    refine qU ?_
    refine qQ ?_
    refine qJ ?_
    refine qJ ?_
    refine qZ ?_
    refine qK (qY rfl) rfl rfl rfl ?_
    refine doL_srcB (F := vI) 13 hl rfl en37 rfl (fun w' h => srcNext _ (by first | omega | assumption | (unfold In64; omega) | decide) w' h) rfl rfl rfl ?_; intro r42 hr42
    have br42 := srcR_b hr42 (by first | decide | omega)
    refine qU ?_
    refine qQ ?_
    refine zK ?_
    refine qJ ?_
    refine qZ ?_
    refine qK (opV_eql rfl rfl) rfl rfl rfl ?_
    refine qK (qW rfl) rfl rfl rfl ?_
    refine qU ?_
    refine qQ ?_
    refine jW rfl (fun hc43 => ?_) (fun hc43 => ?_)
    ·
      refine qZ ?_
      refine qK (qY rfl) rfl rfl rfl ?_
      refine qK (qY rfl) rfl rfl rfl ?_
      refine qK (uU rfl rfl (by first | exact zW ⟨by omega, by omega⟩ | rfl)) rfl rfl rfl ?_
      refine qK (qW rfl) rfl rfl rfl ?_
      refine qU ?_
      refine qV ?_
      refine qQ ?_
      refine qZ ?_
      refine qK (qY rfl) rfl rfl rfl ?_
      refine qK (qY rfl) rfl rfl rfl ?_
      refine qK (qY rfl) rfl rfl rfl ?_
      refine qK (qY rfl) rfl rfl rfl ?_
      refine qK (qY rfl) rfl rfl rfl ?_
      refine qK (yZ rfl rfl (by first | exact zW ⟨by omega, by omega⟩ | rfl)) rfl rfl rfl ?_
      refine qK (opV_min2 rfl rfl) rfl rfl rfl ?_
      refine qK (jJ la88 rfl rfl) rfl rfl rfl ?_
      refine doL_bslice 65 sl34 ze88 rfl rfl rfl rfl rfl rfl rfl rfl ?_; intro b65
      refine doL_append (id2 := 65) 100 app34 rfl rfl rfl rfl rfl rfl rfl (by omega) (by omega) rfl rfl ?_; intro a66 c66 R66 hR66
      obtain rfl := Option.some.inj hR66
      refine qK (qW rfl) rfl rfl rfl ?_
      refine qU ?_
      refine qV ?_
      refine qQ ?_
      refine qZ ?_
      refine qK (qY rfl) rfl rfl rfl ?_
      refine qK (yZ rfl rfl (inc_nat (by omega))) rfl rfl rfl ?_
      refine qK (qW rfl) rfl rfl rfl ?_
      refine qU ?_
      refine post_again (k + 1, q + 1 + 1, a66, c66, rows ++ [⟨j.lo + r39, min j.hi (j.lo + r39 + (j.hi - j.lo))⟩]) (by refine ⟨?_, ?_, ?_⟩ <;> dsimp only; omega; exact bx_step hjk hsh hr39 (bxW_0 hr42 (of_decide_eq_true hc43)); simp [hlen]) (by show js.length - (k + 1) < js.length - k; omega) (by dsimp only; rw [ivC_snoc]; rfl) ?_ ?_ rfl
      repeat' first | exact trivial | exact True.intro | refine ⟨rfl, ?_⟩
    ·
      refine qJ ?_
      refine qJ ?_
      refine qZ ?_
      refine qK (opV_eql rfl rfl) rfl rfl rfl ?_
      refine qK (qW rfl) rfl rfl rfl ?_
      refine qU ?_
      refine qQ ?_
      refine jW rfl (fun hc48 => ?_) (fun hc48 => ?_)
      ·
        refine zU ?_
        refine qQ ?_
        refine zV rfl (hc48) ?_
        refine qZ ?_
        refine qK (qY rfl) rfl rfl rfl ?_
        refine doL_srcB (F := vI) 13 hl rfl en37 rfl (fun w' h => srcNext _ (by first | omega | assumption | (unfold In64; omega) | decide) w' h) rfl rfl rfl ?_; intro r52 hr52
        have br52 := srcR_b hr52 (by first | decide | omega)
        refine qK (qW rfl) rfl rfl rfl ?_
        refine qU ?_
        refine qV ?_
        refine qQ ?_
        refine qZ ?_
        refine qK (qY rfl) rfl rfl rfl ?_
        refine qK (qY rfl) rfl rfl rfl ?_
        refine qK (qY rfl) rfl rfl rfl ?_
        refine qK (qY rfl) rfl rfl rfl ?_
        refine qK (qY rfl) rfl rfl rfl ?_
        refine qK (yZ rfl rfl (by first | exact zW ⟨by omega, by omega⟩ | rfl)) rfl rfl rfl ?_
        refine qK (opV_min2 rfl rfl) rfl rfl rfl ?_
        refine qK (jJ la88 rfl rfl) rfl rfl rfl ?_
        refine doL_bslice 65 sl34 ze88 rfl rfl rfl rfl rfl rfl rfl rfl ?_; intro b65
        refine doL_append (id2 := 65) 100 app34 rfl rfl rfl rfl rfl rfl rfl (by omega) (by omega) rfl rfl ?_; intro a66 c66 R66 hR66
        obtain rfl := Option.some.inj hR66
        refine qK (qW rfl) rfl rfl rfl ?_
        refine qU ?_
        refine qV ?_
        refine qQ ?_
        refine qZ ?_
        refine qK (qY rfl) rfl rfl rfl ?_
        refine qK (yZ rfl rfl (inc_nat (by omega))) rfl rfl rfl ?_
        refine qK (qW rfl) rfl rfl rfl ?_
        refine qU ?_
        refine post_again (k + 1, q + 1 + 1 + 1, a66, c66, rows ++ [⟨j.lo + r39, min j.hi (j.lo + r39 + r52)⟩]) (by refine ⟨?_, ?_, ?_⟩ <;> dsimp only; omega; exact bx_step hjk hsh hr39 (bxW_1 hr42 (.inl (of_decide_eq_true hc48)) hr52); simp [hlen]) (by show js.length - (k + 1) < js.length - k; omega) (by dsimp only; rw [ivC_snoc]; rfl) ?_ ?_ rfl
        repeat' first | exact trivial | exact True.intro | refine ⟨rfl, ?_⟩
      ·
        refine qZ ?_
        refine qK (opV_eql rfl rfl) rfl rfl rfl ?_
        refine qK (qW rfl) rfl rfl rfl ?_
        refine qU ?_
        refine qQ ?_
        refine jW rfl (fun hc48_2 => ?_) (fun hc48_2 => ?_)
        ·
          refine qZ ?_
          refine qK (qY rfl) rfl rfl rfl ?_
          refine doL_srcB (F := vI) 13 hl rfl en37 rfl (fun w' h => srcNext _ (by first | omega | assumption | (unfold In64; omega) | decide) w' h) rfl rfl rfl ?_; intro r52 hr52
          have br52 := srcR_b hr52 (by first | decide | omega)
          refine qK (qW rfl) rfl rfl rfl ?_
          refine qU ?_
          refine qV ?_
          refine qQ ?_
          refine qZ ?_
          refine qK (qY rfl) rfl rfl rfl ?_
          refine qK (qY rfl) rfl rfl rfl ?_
          refine qK (qY rfl) rfl rfl rfl ?_
          refine qK (qY rfl) rfl rfl rfl ?_
          refine qK (qY rfl) rfl rfl rfl ?_
          refine qK (yZ rfl rfl (by first | exact zW ⟨by omega, by omega⟩ | rfl)) rfl rfl rfl ?_
          refine qK (opV_min2 rfl rfl) rfl rfl rfl ?_
          refine qK (jJ la88 rfl rfl) rfl rfl rfl ?_
          refine doL_bslice 65 sl34 ze88 rfl rfl rfl rfl rfl rfl rfl rfl ?_; intro b65
          refine doL_append (id2 := 65) 100 app34 rfl rfl rfl rfl rfl rfl rfl (by omega) (by omega) rfl rfl ?_; intro a66 c66 R66 hR66
          obtain rfl := Option.some.inj hR66
          refine qK (qW rfl) rfl rfl rfl ?_
          refine qU ?_
          refine qV ?_
          refine qQ ?_
          refine qZ ?_
          refine qK (qY rfl) rfl rfl rfl ?_
          refine qK (yZ rfl rfl (inc_nat (by omega))) rfl rfl rfl ?_
          refine qK (qW rfl) rfl rfl rfl ?_
          refine qU ?_
          refine post_again (k + 1, q + 1 + 1 + 1, a66, c66, rows ++ [⟨j.lo + r39, min j.hi (j.lo + r39 + r52)⟩]) (by refine ⟨?_, ?_, ?_⟩ <;> dsimp only; omega; exact bx_step hjk hsh hr39 (bxW_1 hr42 (.inr (of_decide_eq_true hc48_2)) hr52); simp [hlen]) (by show js.length - (k + 1) < js.length - k; omega) (by dsimp only; rw [ivC_snoc]; rfl) ?_ ?_ rfl
          repeat' first | exact trivial | exact True.intro | refine ⟨rfl, ?_⟩
        ·
          refine qJ ?_
          refine qZ ?_
          refine qK (opV_eql rfl rfl) rfl rfl rfl ?_
          refine qK (qW rfl) rfl rfl rfl ?_
          refine qU ?_
          refine qQ ?_
          refine jW rfl (fun hc53 => ?_) (fun hc53 => ?_)
          ·
            refine qZ ?_
            refine qK (qY rfl) rfl rfl rfl ?_
            refine doL_srcB (F := vI) 13 hl rfl en37 rfl (fun w' h => srcNext _ (by first | omega | assumption | (unfold In64; omega) | decide) w' h) rfl rfl rfl ?_; intro r56 hr56
            have br56 := srcR_b hr56 (by first | decide | omega)
            refine qK (qW rfl) rfl rfl rfl ?_
            refine qU ?_
            refine qV ?_
            refine qQ ?_
            refine qZ ?_
            refine qK (qY rfl) rfl rfl rfl ?_
            refine qK (qY rfl) rfl rfl rfl ?_
            refine qK (qY rfl) rfl rfl rfl ?_
            refine qK (qY rfl) rfl rfl rfl ?_
            refine qK (qY rfl) rfl rfl rfl ?_
            refine qK (yZ rfl rfl (by first | exact zW ⟨by omega, by omega⟩ | rfl)) rfl rfl rfl ?_
            refine qK (opV_min2 rfl rfl) rfl rfl rfl ?_
            refine qK (jJ la88 rfl rfl) rfl rfl rfl ?_
            refine doL_bslice 65 sl34 ze88 rfl rfl rfl rfl rfl rfl rfl rfl ?_; intro b65
            refine doL_append (id2 := 65) 100 app34 rfl rfl rfl rfl rfl rfl rfl (by omega) (by omega) rfl rfl ?_; intro a66 c66 R66 hR66
            obtain rfl := Option.some.inj hR66
            refine qK (qW rfl) rfl rfl rfl ?_
            refine qU ?_
            refine qV ?_
            refine qQ ?_
            refine qZ ?_
            refine qK (qY rfl) rfl rfl rfl ?_
            refine qK (yZ rfl rfl (inc_nat (by omega))) rfl rfl rfl ?_
            refine qK (qW rfl) rfl rfl rfl ?_
            refine qU ?_
            refine post_again (k + 1, q + 1 + 1 + 1, a66, c66, rows ++ [⟨j.lo + r39, min j.hi (j.lo + r39 + r56)⟩]) (by refine ⟨?_, ?_, ?_⟩ <;> dsimp only; omega; exact bx_step hjk hsh hr39 (bxW_3 hr42 (of_decide_eq_true hc53) hr56); simp [hlen]) (by show js.length - (k + 1) < js.length - k; omega) (by dsimp only; rw [ivC_snoc]; rfl) ?_ ?_ rfl
            repeat' first | exact trivial | exact True.intro | refine ⟨rfl, ?_⟩
          ·
            refine zU ?_
            refine qV ?_
            refine qQ ?_
            refine qZ ?_
            refine qK (qY rfl) rfl rfl rfl ?_
            refine qK (qY rfl) rfl rfl rfl ?_
            refine qK (qY rfl) rfl rfl rfl ?_
            refine qK (qY rfl) rfl rfl rfl ?_
            refine qK (qY rfl) rfl rfl rfl ?_
            refine qK (yZ rfl rfl (by first | exact zW ⟨by omega, by omega⟩ | rfl)) rfl rfl rfl ?_
            refine qK (opV_min2 rfl rfl) rfl rfl rfl ?_
            refine qK (jJ la88 rfl rfl) rfl rfl rfl ?_
            refine doL_bslice 65 sl34 ze88 rfl rfl rfl rfl rfl rfl rfl rfl ?_; intro b65
            refine doL_append (id2 := 65) 100 app34 rfl rfl rfl rfl rfl rfl rfl (by omega) (by omega) rfl rfl ?_; intro a66 c66 R66 hR66
            obtain rfl := Option.some.inj hR66
            refine qK (qW rfl) rfl rfl rfl ?_
            refine qU ?_
            refine qV ?_
            refine qQ ?_
            refine qZ ?_
            refine qK (qY rfl) rfl rfl rfl ?_
            refine qK (yZ rfl rfl (inc_nat (by omega))) rfl rfl rfl ?_
            refine qK (qW rfl) rfl rfl rfl ?_
            refine qU ?_
            refine post_again (k + 1, q + 1 + 1, a66, c66, rows ++ [⟨j.lo + r39, min j.hi (j.lo + r39 + 0)⟩]) (by refine ⟨?_, ?_, ?_⟩ <;> dsimp only; omega; exact bx_step hjk hsh hr39 (bxW_4 hr42 (of_decide_eq_false hc43) (of_decide_eq_false hc48) (of_decide_eq_false hc48_2) (of_decide_eq_false hc53)); simp [hlen]) (by show js.length - (k + 1) < js.length - k; omega) (by dsimp only; rw [ivC_snoc]; rfl) ?_ ?_ rfl
            repeat' first | exact trivial | exact True.intro | refine ⟨rfl, ?_⟩
  ·
    obtain rfl : k = js.length := by have := of_decide_eq_false hc18; omega
    refine uZ ?_
    refine zX ?_
    refine zX ?_
    refine yH ?_
    refine qQ ?_
    refine qJ ?_
    refine qZ ?_
    refine qK (qY rfl) rfl rfl rfl ?_
    refine qK (qW rfl) rfl rfl rfl ?_
    refine qU ?_
    refine qQ ?_
    refine yK ?_
    refine post_ret (rs := [.tmp 4]) rfl (resC (jX rfl) (resN)) rfl ?_
    intro w2 k2
    obtain ⟨_, q2, q3⟩ := k2.facts _ List.mem_cons_self
    exact ⟨(a, cap), own_capK q3, rfl, k2.grow, ownD a, slc_dep _ _ _, fun z hz => ⟨(q2 z hz).1, (q2 z hz).2.1⟩, by dsimp only; rw [hsh]; exact iv_slc hlen q3⟩
end Go.Proofs.YtnlnbnjnapofmaaGreat
namespace Go.Proofs.YtnlnbnjnapofmaaGreat
open Go.Sx Go.RowKit
theorem bxs_length {l : List Int} {js : List J} : ∀ k, k ≤ js.length → (bxs l js k).1.length = k
  | 0, _ => rfl
  | k + 1, h => by
    have hk : js[k]? = some js[k] := List.getElem?_eq_getElem (by omega)
    have h2 := bxs_length (l := l) (js := js) k (by omega)
    simp only [bxs, hk, List.length_append, List.length_singleton, h2]
theorem madeBox {lv : Value} {l l2 : List Int} {aj am : Option Addr} {cj nm cm : Nat} (w : World) (hl : IntsAt w w.heap.size lv l2) (hS : SlcIs 12 aj ((jsOf l 0 (nJ l 0)).1.map jc) w) :
    Calls Tryz.prog 12 [.agg #[.slice aj (nJ l 0) cj, .slice am nm cm], lv].toArray w (RetsF (X := Option Addr × Nat) (fun x => nJ l 0 ≤ x.2) (fun x => .slice x.1 (nJ l 0) x.2) (fun x => SlcIs 2 x.1 ((bxs l2 (jsOf l 0 (nJ l 0)).1 (nJ l 0)).1.map ivc)) w) := by
  have h := mkBox lv l2 aj am cj nm cm (jsOf l 0 (nJ l 0)).1 (by rw [jsOf_len]; have := nJ_b l 0; omega) (jsOf_b l 0 _) w hl hS
  rw [jsOf_len] at h
  exact h
theorem madeLinks {l : List Int} {aj am ab : Option Addr} {cj cm cb : Nat} {bx : List Iv} (w : World) (hb : bx.length = nJ l 0) (hv : ∀ a ∈ bx, Iv.valid a = true) (hS : SlcIs 12 aj ((jsOf l 0 (nJ l 0)).1.map jc) w) (hM : SlcIs 5 am ((msOf l 0 (nM l 0)).map mc) w) (hT : SlcIs 2 ab (bx.map ivc) w) :
    Calls Tryz.prog 73 [.agg #[.slice aj (nJ l 0) cj, .slice am (nM l 0) cm], .slice ab (nJ l 0) cb].toArray w (RetsF (X := Nat) (fun _ => True) (fun b => .slice (some ⟨b, 0, none⟩) (nJ l 0) (nJ l 0)) (fun b => SlcIs 24 (some ⟨b, 0, none⟩) ((lks (jsOf l 0 (nJ l 0)).1 bx (nJ l 0)).map pc)) w) := by
  have hn := nJ_b l 0
  have hm := nM_b l 0
  exact kLinksAll aj am ab cj (nM l 0) cm cb (nJ l 0) (jsOf l 0 (nJ l 0)).1 (msOf l 0 (nM l 0)) bx (by omega) (by omega) (jsOf_len _ _ _) (msOf_len _ _ _) hb (fun i j h => made_JOK l 0 (nJ l 0) hn.2.1 i j h) (fun m h => msOf_get l 0 _ m h) hv w hS hM hT
end Go.Proofs.YtnlnbnjnapofmaaGreat
namespace Go.Proofs.YtnlnbnjnapofmaaGreat
open Go.Sx
theorem en39 : Enters Tryz.prog 39 := yW Tryz.func39 (by kernel_rfl) (by kernel_rfl)
theorem la31 : layoutOf Tryz.prog 31 = some ([.int .i64 0, .int .i64 0, .int .i64 0, .int .i64 0, .int .i64 0, .int .i64 0, .int .i64 0, .int .i64 0, .int .i64 0, .int .i64 0], [(0, 1), (1, 1), (2, 3), (5, 3), (8, 1), (9, 1)]) := by kernel_rfl
theorem ze31 : zeroIs Tryz.prog 31 (.agg #[.int .i64 0, .int .i64 0, .int .i64 0, .int .i64 0, .int .i64 0, .int .i64 0, .int .i64 0, .int .i64 0, .int .i64 0, .int .i64 0]) := by unfold zeroIs; kernel_rfl
theorem ty31 : tyB Tryz.prog 31 true 10 = true := by kernel_rfl
theorem fa31_4 : fieldB Tryz.prog 31 4 8 = true := by kernel_rfl
theorem fa31_5 : fieldB Tryz.prog 31 5 9 = true := by kernel_rfl
theorem fa31_1 : fieldB Tryz.prog 31 1 1 = true := by kernel_rfl
theorem sl32 : slcB Tryz.prog 32 31 10 = true := by kernel_rfl
theorem app32 : appB Tryz.prog 32 31 10 80 = true := by kernel_rfl
theorem quo2 {a : Int} (h : -9000000000 ≤ a ∧ a ≤ 9000000000) : IntKind.i64.wrap (a.tdiv 2) = a.tdiv 2 := zW (by
  have := tdiv_bnd (a := a) (b := 2) (by unfold In64; omega) (by decide)
  exact this)
theorem mkConsO (lv : Value) (l : List Int) (aj am : Option Addr) (cj nj nm cm n : Nat) (hn : n ≤ 1000) (hj : 1 ≤ nj ∧ nj ≤ 10) (w : World) (hl : IntsAt w w.heap.size lv l) : Calls Tryz.prog 11 [.agg #[.slice aj nj cj, .slice am nm cm], .int .i64 (n : Int), lv].toArray w (RetsF (X := Option Addr × Nat) (fun x => n ≤ x.2) (fun x => .slice x.1 n x.2) (fun x => OwnF 0 31 10 x.1 x.2 n (cnC (cnsOf nrm l nj n).1)) w) := by
  refine yQ (n := 66) Tryz.func11 rfl rfl rfl ?_
  refine qJ ?_
  refine qZ ?_
  refine kW 3 rfl rfl rfl rfl ?_; intro b3
  refine qK (qW rfl) rfl rfl rfl ?_
  refine qU ?_
  refine qQ ?_
  refine qJ ?_
  refine qZ ?_
  refine qK (qY rfl) rfl rfl rfl ?_
  refine doL_callNew 11 en36 rfl (fun w' k => mFrom w' (intsAt_grow hl k.grow (Nat.le_refl _))) rfl rfl ?_; intro b11
  refine qK (qW rfl) rfl rfl rfl ?_
  refine qU ?_
  refine qQ ?_
  refine qJ ?_
  refine doC_own 100 31 10 ?_
  refine qZ ?_
  refine qK (qW rfl) rfl rfl rfl ?_
  refine qU ?_
  refine qQ ?_
  refine qJ ?_
  refine zK ?_
  refine doC_loopK [3, 7] [3] (α := Nat × Nat × Option Addr × Nat × List Cn) (fun x => n - x.1) (fun x => x.1 ≤ n ∧ cnsOf nrm l nj x.1 = (x.2.2.2.2, x.2.1) ∧ x.2.2.2.2.length = x.1) (fun x => ⟨w, [(100, ownD x.2.2.1, OwnF 0 31 10 x.2.2.1 x.2.2.2.1 x.1 (cnC x.2.2.2.2))]⟩) (fun x => [(8, .slice x.2.2.1 x.1 x.2.2.2.1), (1, .int .i64 ((n - x.1 : Nat) : Int))]) (fun x => [(11, b11, srcC lv l x.2.1, 116)]) (0, 0, none, 0, []) rfl rfl ?_ ?_ ?_ ?_ rfl ?_
  ·
    exact ⟨Nat.zero_le _, rfl, rfl⟩
  ·
    exact rfl
  ·
    repeat' first | exact trivial | exact True.intro | refine ⟨rfl, ?_⟩
  ·
    repeat' first | exact trivial | exact True.intro | refine ⟨rfl, ?_⟩
  rintro ⟨k, q, a, cap, rows⟩ ⟨hk, hsh, hlen⟩
  dsimp only at hk hsh hlen ⊢
  refine qJ ?_
  refine qJ ?_
  refine qZ ?_
  refine qK (qY rfl) rfl rfl rfl ?_
  refine qK (opV_gtr rfl rfl) rfl rfl rfl ?_
  refine qU ?_
  refine qQ ?_
  refine jW rfl (fun hc13 => ?_) (fun hc13 => ?_)
  ·
    have h2 : k < n := by have := of_decide_eq_true hc13; omega
    refine zU ?_
    refine qQ ?_
    refine qJ ?_
    refine zK ?_
    refine qJ ?_
    refine doC_srcB 11 28 [1, 6, 8, 12, 15, 20, 22, 24] rfl mo (by kernel_rfl) ?_
    simp only [List.take_succ_cons, List.take_zero, List.drop_succ_cons, List.drop_zero]
    refine doM_v (fun _ => qY rfl) rfl rfl rfl rfl ?_
    refine doM_srcB (F := vI) 11 hl rfl en37 rfl (fun w' h => srcNext _ (by first | omega | assumption | (unfold In64; omega) | decide) w' h) rfl rfl rfl ?_; intro r17 hr17
    have br17 := srcR_b hr17 (by first | decide | omega)
    refine doM_v (fun _ => qY rfl) rfl rfl rfl rfl ?_
    refine doM_v (fun _ => qH fa26_0 rfl) rfl rfl rfl rfl ?_
    refine doM_v (fun _ => zJ 3 ty23 rfl rfl rfl) rfl rfl rfl rfl ?_
    refine doM_v (fun _ => opV_len_slice sl23 rfl) rfl rfl rfl rfl ?_
    refine doM_srcB (F := vI) 11 hl rfl en37 rfl (fun w' h => srcNext _ (by omega) w' h) rfl rfl rfl ?_; intro r22 hr22
    have br22 := srcR_b hr22 (by first | decide | omega)
    refine doM_v (fun _ => qY rfl) rfl rfl rfl rfl ?_
    refine doM_srcB (F := vI) 11 hl rfl en38 rfl (fun w' h => srcSigned _ (by first | omega | assumption | (unfold In64; omega) | decide) w' h) rfl rfl rfl ?_; intro r24 hr24
    have br24 := srcS_b hr24 (by first | decide | omega)
    refine doM_v (fun _ => jG rfl rfl (by first | exact zW ⟨by omega, by omega⟩ | rfl)) rfl rfl rfl rfl ?_
    refine doM_v (fun _ => opV_quo rfl rfl (by first | decide | omega) (quo2 (by omega))) rfl rfl rfl rfl ?_
    refine doM_v (fun _ => qY rfl) rfl rfl rfl rfl ?_
    refine doM_srcB (F := vI) 11 hl rfl en38 rfl (fun w' h => srcSigned _ (by first | omega | assumption | (unfold In64; omega) | decide) w' h) rfl rfl rfl ?_; intro r28 hr28
    have br28 := srcS_b hr28 (by first | decide | omega)
    refine doM_v (fun _ => jG rfl rfl (by first | exact zW ⟨by omega, by omega⟩ | rfl)) rfl rfl rfl rfl ?_
    refine doM_v (fun _ => qY rfl) rfl rfl rfl rfl ?_
    refine doM_srcB (F := vI) 11 hl rfl en38 rfl (fun w' h => srcSigned _ (by first | omega | assumption | (unfold In64; omega) | decide) w' h) rfl rfl rfl ?_; intro r31 hr31
    have br31 := srcS_b hr31 (by first | decide | omega)
    refine doM_v (fun _ => jG rfl rfl (by first | exact zW ⟨by omega, by omega⟩ | rfl)) rfl rfl rfl rfl ?_
    refine doM_v (fun _ => opV_quo rfl rfl (by first | decide | omega) (quo2 (by omega))) rfl rfl rfl rfl ?_
    refine doM_v (fun _ => jJ la29 rfl rfl) rfl rfl rfl rfl ?_
    refine doM_v (fun _ => qY rfl) rfl rfl rfl rfl ?_
    refine doM_srcB (F := vI) 11 hl rfl en37 rfl (fun w' h => srcNext _ (by first | omega | assumption | (unfold In64; omega) | decide) w' h) rfl rfl rfl ?_; intro r36 hr36
    have br36 := srcR_b hr36 (by first | decide | omega)
    refine doM_v (fun _ => qY rfl) rfl rfl rfl rfl ?_
    refine doM_srcB (F := vI) 11 hl rfl en37 rfl (fun w' h => srcNext _ (by first | omega | assumption | (unfold In64; omega) | decide) w' h) rfl rfl rfl ?_; intro r38 hr38
    have br38 := srcR_b hr38 (by first | decide | omega)
    refine doM_v (fun _ => qY rfl) rfl rfl rfl rfl ?_
    refine doM_srcB (F := vI) 11 hl rfl en37 rfl (fun w' h => srcNext _ (by first | omega | assumption | (unfold In64; omega) | decide) w' h) rfl rfl rfl ?_; intro r40 hr40
    have br40 := srcR_b hr40 (by first | decide | omega)
    refine doM_vg (F := z3) (fun _ => zY en39 rfl (fun w _ => mNormal2 _ _ _  w)) rfl rfl rfl rfl ?_; intro r41 hr41
    refine doM_v (fun _ => jJ la31 rfl rfl) rfl rfl rfl rfl ?_
    refine doM_alloc (famB (id := 11) rfl) ze31 rfl rfl rfl rfl rfl ?_
    refine doM_nil ?_
    refine tail_heap rfl ?_
    refine tail_alloc 9 rfl ?_; intro b9_2
    refine yV ?_
    refine zZ 9 ty31 rfl rfl rfl rfl rfl rfl rfl rfl ?_
    refine qU ?_
    refine qQ ?_
    refine qJ ?_
    refine qZ ?_
    refine qK (qY rfl) rfl rfl rfl ?_
    refine doL_srcB (F := vI) 11 hl rfl en38 rfl (fun w' h => srcSigned _ (by first | omega | assumption | (unfold In64; omega) | decide) w' h) rfl rfl rfl ?_; intro r44 hr44
    have br44 := srcS_b hr44 (by first | decide | omega)
    refine qK (jG rfl rfl (by first | exact zW ⟨by omega, by omega⟩ | rfl)) rfl rfl rfl ?_
    refine qK (qH fa31_4 rfl) rfl rfl rfl ?_
    refine zZ 9 ty2 rfl rfl rfl rfl rfl rfl rfl rfl ?_
    refine qU ?_
    refine qQ ?_
    refine qJ ?_
    refine doC_srcB 11 6 [3] rfl mo (by kernel_rfl) ?_
    simp only [List.take_succ_cons, List.take_zero, List.drop_succ_cons, List.drop_zero]
    refine doM_v (fun _ => qH fa31_4 rfl) rfl rfl rfl rfl ?_
    refine doM_v (fun _ => zJ 9 ty2 rfl rfl rfl) rfl rfl rfl rfl ?_
    refine doM_v (fun _ => qY rfl) rfl rfl rfl rfl ?_
    refine doM_srcB (F := vI) 11 hl rfl en37 rfl (fun w' h => srcNext _ (by first | omega | assumption | (unfold In64; omega) | decide) w' h) rfl rfl rfl ?_; intro r50 hr50
    have br50 := srcR_b hr50 (by first | decide | omega)
    refine doM_v (fun _ => jG rfl rfl (by first | exact zW ⟨by omega, by omega⟩ | rfl)) rfl rfl rfl rfl ?_
    refine doM_v (fun _ => yZ rfl rfl (by first | exact zW ⟨by omega, by omega⟩ | rfl)) rfl rfl rfl rfl ?_
    refine doM_nil ?_
    refine tail_heap rfl ?_
    refine yV ?_
    refine qK (qH fa31_5 rfl) rfl rfl rfl ?_
    refine zZ 9 ty2 rfl rfl rfl rfl rfl rfl rfl rfl ?_
    refine qU ?_
    refine qQ ?_
    refine qJ ?_
    refine qJ ?_
    refine qZ ?_
    refine qK (qY rfl) rfl rfl rfl ?_
    refine doL_srcB (F := vI) 11 hl rfl en37 rfl (fun w' h => srcNext _ (by first | omega | assumption | (unfold In64; omega) | decide) w' h) rfl rfl rfl ?_; intro r55 hr55
    have br55 := srcR_b hr55 (by first | decide | omega)
    refine qK (opV_eql rfl rfl) rfl rfl rfl ?_
    refine qU ?_
    refine qQ ?_
    refine jW rfl (fun hc56 => ?_) (fun hc56 => ?_)
    ·
      refine qZ ?_
      refine qK (qY rfl) rfl rfl rfl ?_
      refine doL_srcB (F := vI) 11 hl rfl en37 rfl (fun w' h => srcNext _ (by first | omega | assumption | (unfold In64; omega) | decide) w' h) rfl rfl rfl ?_; intro r58 hr58
      have br58 := srcR_b hr58 (by first | decide | omega)
      refine qK (uU rfl rfl (by first | exact zW ⟨by omega, by omega⟩ | rfl)) rfl rfl rfl ?_
      refine qK (qH fa31_1 rfl) rfl rfl rfl ?_
      refine zZ 9 ty3 rfl rfl rfl rfl rfl rfl rfl rfl ?_
      refine qU ?_
      refine qQ ?_
      refine qZ ?_
      refine qK (qY rfl) rfl rfl rfl ?_
      refine qK (zQ 9 ty31 rfl rfl rfl) rfl rfl rfl ?_
      refine doL_bslice 63 sl32 ze31 rfl rfl rfl rfl rfl rfl rfl rfl ?_; intro b63
      refine doL_append (id2 := 63) 100 app32 rfl rfl rfl rfl rfl rfl rfl (by omega) (by omega) rfl rfl ?_; intro a64 c64 R64 hR64
      obtain rfl := Option.some.inj hR64
      refine qK (qW rfl) rfl rfl rfl ?_
      refine qU ?_
      refine qV ?_
      refine qQ ?_
      refine qZ ?_
      refine qK (qY rfl) rfl rfl rfl ?_
      refine qK (uU rfl rfl (dec_rem (by omega) h2)) rfl rfl rfl ?_
      refine qK (qW rfl) rfl rfl rfl ?_
      refine qU ?_
      refine post_again (k + 1, q + 12, a64, c64, rows ++ [⟨r17, r58 - 3, ⟨(r24 * 65536).tdiv 2, r28 * 65536, (r31 * 65536).tdiv 2⟩, r41, r44 * 65536, r44 * 65536 + r50 * 65536⟩]) (by refine ⟨?_, ?_, ?_⟩ <;> dsimp only; omega; exact cns_t hsh hr17 hr24 hr28 hr31 hr36 hr38 hr40 hr41 hr44 hr50 hr55 (of_decide_eq_true hc56) hr58; simp [hlen]) (by show n - (k + 1) < n - k; omega) (by dsimp only; rw [cnC_snoc]; rfl) ?_ ?_ rfl
      repeat' first | exact trivial | exact True.intro | refine ⟨rfl, ?_⟩
    ·
      refine zU ?_
      refine qQ ?_
      refine qZ ?_
      refine qK (qY rfl) rfl rfl rfl ?_
      refine qK (zQ 9 ty31 rfl rfl rfl) rfl rfl rfl ?_
      refine doL_bslice 63 sl32 ze31 rfl rfl rfl rfl rfl rfl rfl rfl ?_; intro b63
      refine doL_append (id2 := 63) 100 app32 rfl rfl rfl rfl rfl rfl rfl (by omega) (by omega) rfl rfl ?_; intro a64 c64 R64 hR64
      obtain rfl := Option.some.inj hR64
      refine qK (qW rfl) rfl rfl rfl ?_
      refine qU ?_
      refine qV ?_
      refine qQ ?_
      refine qZ ?_
      refine qK (qY rfl) rfl rfl rfl ?_
      refine qK (uU rfl rfl (dec_rem (by omega) h2)) rfl rfl rfl ?_
      refine qK (qW rfl) rfl rfl rfl ?_
      refine qU ?_
      refine post_again (k + 1, q + 11, a64, c64, rows ++ [⟨r17, r22, ⟨(r24 * 65536).tdiv 2, r28 * 65536, (r31 * 65536).tdiv 2⟩, r41, r44 * 65536, r44 * 65536 + r50 * 65536⟩]) (by refine ⟨?_, ?_, ?_⟩ <;> dsimp only; omega; exact cns_f hsh hr17 hr22 hr24 hr28 hr31 hr36 hr38 hr40 hr41 hr44 hr50 hr55 (of_decide_eq_false hc56); simp [hlen]) (by show n - (k + 1) < n - k; omega) (by dsimp only; rw [cnC_snoc]; rfl) ?_ ?_ rfl
      repeat' first | exact trivial | exact True.intro | refine ⟨rfl, ?_⟩
  ·
    obtain rfl : k = n := by have := of_decide_eq_false hc13; omega
    refine uZ ?_
    refine zX ?_
    refine zX ?_
    refine yH ?_
    refine qQ ?_
    refine qJ ?_
    refine qZ ?_
    refine qK (qY rfl) rfl rfl rfl ?_
    refine qK (qW rfl) rfl rfl rfl ?_
    refine qU ?_
    refine qQ ?_
    refine yK ?_
    refine post_ret (rs := [.tmp 6]) rfl (resC (jX rfl) (resN)) rfl ?_
    intro w2 k2
    obtain ⟨_, q2, q3⟩ := k2.facts _ List.mem_cons_self
    exact ⟨(a, cap), own_capK q3, rfl, k2.grow, ownD a, own_dep _ _ _ _ _ _ _, fun z hz => ⟨(q2 z hz).1, (q2 z hz).2.1⟩, by dsimp only; rw [hsh]; exact q3⟩
end Go.Proofs.YtnlnbnjnapofmaaGreat
namespace Go.Proofs.YtnlnbnjnapofmaaGreat
open Go.Sx
theorem en35 : Enters Tryz.prog 35 := yW Tryz.func35 (by kernel_rfl) (by kernel_rfl)
theorem mkRobotT (lv : Value) (l : List Int) (w : World) (hl : IntsAt w w.heap.size lv l) : Calls Tryz.prog 10 [lv].toArray w (RetsF (X := (Option Addr × Nat) × (Option Addr × Nat)) (fun x => nJ l 0 ≤ x.1.2 ∧ nM l 0 ≤ x.2.2) (fun x => .agg #[.slice x.1.1 (nJ l 0) x.1.2, .slice x.2.1 (nM l 0) x.2.2]) (fun x w => SlcIs 12 x.1.1 ((jsOf l 0 (nJ l 0)).1.map jc) w ∧ SlcIs 5 x.2.1 ((msOf l 0 (nM l 0)).map mc) w) w) := by
  refine yQ (n := 6) Tryz.func10 rfl rfl rfl ?_
  refine qJ ?_
  refine qZ ?_
  refine jY 2 ze26 rfl rfl rfl ?_; intro b2
  refine qU ?_
  refine qQ ?_
  refine qJ ?_
  refine qZ ?_
  refine qK (qY rfl) rfl rfl rfl ?_
  refine doL_callNew 4 en36 rfl (fun w' k => mFrom w' (intsAt_grow hl k.grow (Nat.le_refl _))) rfl rfl ?_; intro b4
  refine doL_toldB 5 4 hl rfl en35 rfl (fun w' h => mkRobot   w' h) rfl rfl rfl ?_; intro x5 Dx5 _
  rename_i hP5
  obtain ⟨⟨aj, cj⟩, am, cm⟩ := x5
  dsimp only
  refine zZ 2 ty26 rfl rfl rfl rfl rfl rfl rfl rfl ?_
  refine qU ?_
  refine qQ ?_
  refine yK ?_
  refine post_ret (rs := [.cell 2 26]) rfl (resC (yY 2 rfl rfl ty26 rfl) (resN)) rfl ?_
  intro w2 k2
  obtain ⟨p1, p2, p3⟩ := k2.facts _ List.mem_cons_self
  exact ⟨((aj, cj), (am, cm)), hP5, rfl, k2.grow, _, p1, fun z hz => ⟨(p2 z hz).1, (p2 z hz).2.1⟩, p3⟩
end Go.Proofs.YtnlnbnjnapofmaaGreat
namespace Go.Proofs.YtnlnbnjnapofmaaGreat
open Go.Rx Rt Go.Sx Go.RowKit
def jp (j : J) : List PV := [.s j.name, .n .i64 j.kind, .n .i64 j.parent, .n .i64 j.off.x, .n .i64 j.off.y, .n .i64 j.off.z, .n .i64 j.lo, .n .i64 j.hi, .n .i64 j.weight, .n .i64 j.speed, .n .i64 j.accel, .n .i64 j.torque]
def mp (m : Ms) : List PV := [.n .i64 m.link, .n .i64 m.mass, .n .i64 m.p.x, .n .i64 m.p.y, .n .i64 m.p.z]
def cp (c : Cn) : List PV := [.n .i64 c.kind, .n .i64 c.link, .n .i64 c.p.x, .n .i64 c.p.y, .n .i64 c.p.z, .n .i64 c.n.x, .n .i64 c.n.y, .n .i64 c.n.z, .n .i64 c.lo, .n .i64 c.hi]
theorem valRows_map {α : Type} {f : α → List PV} {g : α → List Value} (h : ∀ x, (f x).map PV.val1 = g x) (l : List α) : valRows (l.map f) = l.map g := by
  unfold valRows
  rw [List.map_map]
  exact List.map_congr_left fun x _ => h x
theorem flat_map {α : Type} {f : α → List PV} {sz : Nat} (h : ∀ x, (Nat.beq (f x).length sz && (f x).all PV.flat1) = true) (l : List α) : flatRows sz (l.map f) = true := by
  unfold flatRows
  rw [List.all_map, List.all_eq_true]
  exact fun x _ => h x
theorem rp_told {α : Type} {f : α → List PV} {g : α → List Value} {sz k c : Nat} {l : List α} {a : Option Addr} {F D : Nat → Prop} {G : World → Prop} {w : World} (hv : ∀ x, (f x).map PV.val1 = g x) (hf : ∀ x, (Nat.beq (f x).length sz && (f x).all PV.flat1) = true) (hk : l.length = k) (hc : k ≤ c) (h0 : 0 < sz)
    (hd : Depends D G) (hG : G w) (hi : ∀ w, G w → SlcIs sz a (l.map g) w) (hF : ∀ k, D k → F k) : RP F w (.l (l.map f)) (.slice a k c) := by
  have := rp_of_slc (F := F) (c := c) (flat_map hf l) (by rw [List.length_map, hk]; exact hc) (by rw [valRows_map hv]; exact hi w hG) (fun b off ha hne => hF b (dep_mem hd hG hi h0 (fun e => hne (by cases l with | nil => rfl | cons x xs => cases e)) b off ha))
  rw [List.length_map, hk] at this
  exact this
theorem slc_told {α : Type} {f : α → List PV} {g : α → List Value} {sz k : Nat} {l : List α} {F : Nat → Prop} {w : World} {v : Value} (hv : ∀ x, (f x).map PV.val1 = g x) (hf : ∀ x, (Nat.beq (f x).length sz && (f x).all PV.flat1) = true) (hk : l.length = k) (hF : ∀ k, F k → k < w.heap.size) (h : RP F w (.l (l.map f)) v) :
    ∃ a c, v = .slice a k c ∧ k ≤ c ∧ SlcIs sz a (l.map g) w := by
  obtain ⟨a, c, rfl, hc, hS, _⟩ := slc_of_rp (flat_map hf l) hF h
  rw [List.length_map, hk] at hc
  exact ⟨a, c, by rw [List.length_map, hk], hc, by rw [valRows_map hv] at hS; exact hS⟩
def robP (l : List Int) : PV := .a [.l ((jsOf l 0 (nJ l 0)).1.map jp), .l ((msOf l 0 (nM l 0)).map mp)]
theorem snd_robot {l : List Int} (hl : l.length ≤ 9223372036854775807) : SndA1 Tryz.prog 10 [intsP l] (.v (robP l)) := by
  refine snd_told (X := (Option Addr × Nat) × (Option Addr × Nat)) (Φ := fun x => nJ l 0 ≤ x.1.2 ∧ nM l 0 ≤ x.2.2) (V := fun x => .agg #[.slice x.1.1 (nJ l 0) x.1.2, .slice x.2.1 (nM l 0) x.2.2]) (G := fun x w => SlcIs 12 x.1.1 ((jsOf l 0 (nJ l 0)).1.map jc) w ∧ SlcIs 5 x.2.1 ((msOf l 0 (nM l 0)).map mc) w) (yW Tryz.func10 (by kernel_rfl) (by kernel_rfl)) (fun w F vals hF hal => ?_) (fun x w D F hP hG hd hF => ?_)
  · obtain ⟨v, vs, rfl, h1, h2⟩ := al_uncons hal
    obtain rfl := al_unnil h2
    exact mkRobotT v l w (ints_of_rp hl hF h1)
  · have h := al_cons (rp_told (f := jp) (g := jc) (sz := 12) (fun _ => rfl) (fun _ => rfl) (jsOf_len l 0 _) hP.1 (by decide) hd hG (fun _ h => h.1) hF) (al_cons (rp_told (f := mp) (g := mc) (sz := 5) (fun _ => rfl) (fun _ => rfl) (msOf_len l 0 _) hP.2 (by decide) hd hG (fun _ h => h.2) hF) al_nil)
    exact .a _ _ h.1 (fun v hv => by rcases List.mem_cons.1 hv with rfl | hv; rfl; rcases List.mem_cons.1 hv with rfl | hv; rfl; cases hv) h.2
theorem rob_open {l : List Int} {F : Nat → Prop} {w : World} {v : Value} (hF : ∀ k, F k → k < w.heap.size) (h : RP F w (robP l) v) : ∃ aj cj am cm, v = .agg #[.slice aj (nJ l 0) cj, .slice am (nM l 0) cm] ∧ SlcIs 12 aj ((jsOf l 0 (nJ l 0)).1.map jc) w ∧ SlcIs 5 am ((msOf l 0 (nM l 0)).map mc) w := by
  obtain ⟨vs, rfl, ha⟩ := rp_parts h
  obtain ⟨v1, vs, rfl, h1, ha⟩ := al_uncons ha
  obtain ⟨v2, vs, rfl, h2, ha⟩ := al_uncons ha
  obtain rfl := al_unnil ha
  obtain ⟨aj, cj, rfl, _, hj⟩ := slc_told (sz := 12) (g := jc) (fun _ => rfl) (fun _ => rfl) (jsOf_len l 0 _) hF h1
  obtain ⟨am, cm, rfl, _, hm⟩ := slc_told (sz := 5) (g := mc) (fun _ => rfl) (fun _ => rfl) (msOf_len l 0 _) hF h2
  exact ⟨aj, cj, am, cm, rfl, hj, hm⟩
def boxOf (l m : List Int) : List Iv := (bxs m (jsOf l 0 (nJ l 0)).1 (nJ l 0)).1
def boxP (l m : List Int) : PV := .l ((boxOf l m).map ivC)
theorem boxOf_len (l m : List Int) : (boxOf l m).length = nJ l 0   := bxs_length _ (by rw [jsOf_len]; exact Nat.le_refl _)
theorem snd_box {l m : List Int} (hm : m.length ≤ 9223372036854775807) : SndA1 Tryz.prog 12 [robP l, intsP m] (.v (boxP l m)) := by
  refine snd_told (X := Option Addr × Nat) (Φ := fun x => nJ l 0 ≤ x.2) (V := fun x => .slice x.1 (nJ l 0) x.2) (G := fun x => SlcIs 2 x.1 ((boxOf l m).map ivc)) (yW Tryz.func12 (by kernel_rfl) (by kernel_rfl)) (fun w F vals hF hal => ?_) (fun x w D F hP hG hd hF => rp_told (g := ivc) (sz := 2) (fun _ => rfl) (fun _ => rfl) (boxOf_len l m) hP (by decide) hd hG (fun _ h => h) hF)
  obtain ⟨v1, vs, rfl, h1, hal⟩ := al_uncons hal
  obtain ⟨v2, vs, rfl, h2, hal⟩ := al_uncons hal
  obtain rfl := al_unnil hal
  obtain ⟨aj, cj, am, cm, rfl, hj, hm'⟩ := rob_open hF h1
  exact madeBox w (ints_of_rp hm hF h2) hj
noncomputable def consOf (l m : List Int) (n : Nat) : List Cn := (cnsOf nrm m (nJ l 0) n).1
theorem snd_check (l : List Int) : SndA1 Tryz.prog 67 [robP l] (.v (.n .i64 0)) := by
  refine ⟨(yW Tryz.func67 (by kernel_rfl) (by kernel_rfl)), fun w F vals hF hal => ?_⟩
  obtain ⟨v1, vs, rfl, h1, hal⟩ := al_uncons hal
  obtain rfl := al_unnil hal
  obtain ⟨aj, cj, am, cm, rfl, hj, hm⟩ := rob_open hF h1
  have hb := nJ_b l 0
  have hm' := nM_b l 0
  refine (cCheck aj am cj (nM l 0) cm (nJ l 0) _ _ (by omega) (by omega) (jsOf_len l 0 _) (msOf_len l 0 _) (fun i j h => made_JOK l 0 (nJ l 0) hb.2.1 i j h) (fun m h => msOf_get l 0 _ m h) w hj hm).mono fun e w' ⟨he, hg⟩ => ?_
  exact ⟨_, F, he, hg, fun k hk => hk, fun k hk => .inl hk, .n _ _⟩
def lksOf (l : List Int) (bx : List Iv) : List Po := lks (jsOf l 0 (nJ l 0)).1 bx (nJ l 0)
theorem lks_len {js : List J} {bx : List Iv} : ∀ k, k ≤ js.length → k ≤ bx.length → (lks js bx k).length = k
  | 0, _, _ => rfl
  | k + 1, h1, h2 => by
    have e1 : js[k]? = some (js[k]'(by omega)) := List.getElem?_eq_getElem (by omega)
    have e2 : bx[k]? = some (bx[k]'(by omega)) := List.getElem?_eq_getElem (by omega)
    simp only [lks, e1, e2, List.length_append, List.length_cons, List.length_nil]
    rw [lks_len k (by omega) (by omega)]
theorem snd_links {l : List Int} {bx : List Iv} (hb : bx.length = nJ l 0) (hv : ∀ a ∈ bx, Iv.valid a = true) : SndA1 Tryz.prog 73 [robP l, .l (bx.map ivC)] (.v (.l ((lksOf l bx).map poC))) := by
  refine snd_told (X := Nat) (Φ := fun _ => True) (V := fun b => .slice (some ⟨b, 0, none⟩) (nJ l 0) (nJ l 0)) (G := fun b => SlcIs 24 (some ⟨b, 0, none⟩) ((lksOf l bx).map pc)) (yW Tryz.func73 (by kernel_rfl) (by kernel_rfl)) (fun w F vals hF hal => ?_) (fun x w D F hP hG hd hF => rp_told (g := pc) (sz := 24) (fun _ => rfl) (fun _ => rfl) (lks_len _ (by rw [jsOf_len]; exact Nat.le_refl _) (by rw [hb]; exact Nat.le_refl _)) (Nat.le_refl _) (by decide) hd hG (fun _ h => h) hF)
  obtain ⟨v1, vs, rfl, h1, hal⟩ := al_uncons hal
  obtain ⟨v2, vs, rfl, h2, hal⟩ := al_uncons hal
  obtain rfl := al_unnil hal
  obtain ⟨aj, cj, am, cm, rfl, hj, hm'⟩ := rob_open hF h1
  obtain ⟨ab, cb, rfl, _, hS⟩ := slc_told (sz := 2) (g := ivc) (fun _ => rfl) (fun _ => rfl) hb hF h2
  exact madeLinks w hb hv hj hm' hS
end Go.Proofs.YtnlnbnjnapofmaaGreat

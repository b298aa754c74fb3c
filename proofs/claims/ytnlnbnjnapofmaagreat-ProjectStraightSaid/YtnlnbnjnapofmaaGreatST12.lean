/- Part 12 of the texts behind the last one: rules and contracts. No condition. -/
import Derived.Test.YtnlnbnjnapofmaaGreatST11
namespace Go.Proofs.YtnlnbnjnapofmaaGreat
open Go.Sx
theorem fa114_0 : fieldB Tryz.prog 114 0 0 = true := by kernel_rfl
theorem fa114_1 : fieldB Tryz.prog 114 1 1 = true := by kernel_rfl
theorem fa114_2 : fieldB Tryz.prog 114 2 2 = true := by kernel_rfl
theorem ty114 : tyB Tryz.prog 114 true 5 = true := by kernel_rfl
theorem en101 : Enters Tryz.prog 101 := yW Tryz.func101 (by kernel_rfl) (by kernel_rfl)
theorem en136 : Enters Tryz.prog 136 := yW Tryz.func136 (by kernel_rfl) (by kernel_rfl)
theorem cMass  (aj am : Option Addr) (cj nm cm n : Nat) (lk ms px py pz : Int) (hlk : 0 ≤ lk ∧ lk < n) (hms : 1 ≤ ms ∧ ms ≤ 65536) (h0 : -4194304 ≤ px ∧ px ≤ 4194304) (h1 : -4194304 ≤ py ∧ py ≤ 4194304) (h2 : -4194304 ≤ pz ∧ pz ≤ 4194304) (w : World) : Calls Tryz.prog 101 [.agg #[.slice aj n cj, .slice am nm cm], .agg #[.int .i64 lk, .int .i64 ms, .int .i64 px, .int .i64 py, .int .i64 pz]].toArray w (Rets (vB (true)) (w)) := by
  refine yQ (n := 27) Tryz.func101 rfl rfl rfl ?_
  refine qJ ?_
  refine qZ ?_
  refine kK 2 rfl rfl rfl rfl ?_; intro b2
  refine kK 3 rfl rfl rfl rfl ?_; intro b3
  refine qK (qW rfl) rfl rfl rfl ?_
  refine qU ?_
  refine qQ ?_
  refine qJ ?_
  refine qZ ?_
  refine qK (qH fa114_0 rfl) rfl rfl rfl ?_
  refine qK (zJ 3 ty3 rfl rfl rfl) rfl rfl rfl ?_
  refine qK (opV_leq rfl rfl) rfl rfl rfl ?_
  refine qK (qY rfl) rfl rfl rfl ?_
  refine doL_true 8 rfl (decide_eq_true (by omega)) ?_
  refine qK (qH fa114_0 rfl) rfl rfl rfl ?_
  refine qK (zJ 3 ty3 rfl rfl rfl) rfl rfl rfl ?_
  refine qK (qH fa26_0 rfl) rfl rfl rfl ?_
  refine qK (zJ 2 ty23 rfl rfl rfl) rfl rfl rfl ?_
  refine qK (opV_len_slice sl23 rfl) rfl rfl rfl ?_
  refine qK (yK rfl rfl) rfl rfl rfl ?_
  refine qK (opV_pick_t rfl rfl rfl rfl) rfl rfl rfl ?_
  refine qK (qY rfl) rfl rfl rfl ?_
  refine doL_true 16 rfl (decide_eq_true (by omega)) ?_
  refine qK (qH fa114_1 rfl) rfl rfl rfl ?_
  refine qK (zJ 3 ty2 rfl rfl rfl) rfl rfl rfl ?_
  refine kY (F := vB) (zY en135 rfl (fun w _ => cFrom1 _ _  w)) rfl rfl rfl ?_; intro r19 hr19
  refine qK (opV_pick_t rfl rfl rfl rfl) rfl rfl rfl ?_
  refine qK (qY rfl) rfl rfl rfl ?_
  refine doL_true 21 rfl (by rw [hr19]; simp; omega) ?_
  refine qK (qH fa114_2 rfl) rfl rfl rfl ?_
  refine qK (zQ 3 ty29 rfl rfl rfl) rfl rfl rfl ?_
  refine kY (F := vB) (zY en133 rfl (fun w _ => cBeyond _ _ _ h0 h1 h2 w)) rfl rfl rfl ?_; intro r24 hr24
  refine qK (opV_not rfl) rfl rfl rfl ?_
  refine qK (opV_pick_t rfl rfl rfl rfl) rfl rfl rfl ?_
  refine qK (qW rfl) rfl rfl rfl ?_
  refine qU ?_
  refine qQ ?_
  refine yU ?_
  refine zH (rs := [.tmp 4]) rfl (resC (jU rfl) (resN)) (congrArg (vB) (?_ : _ = true))
  rw [hr24]; rfl
theorem en_mq : Enters Tryz.prog 100 := yW Tryz.func100 (by kernel_rfl) (by kernel_rfl)
theorem cMass1  (aj am : Option Addr) (cj nm cm n b : Nat) (lk ms px py pz : Int) (hlk : 0 ≤ lk ∧ lk < n) (hms : 1 ≤ ms ∧ ms ≤ 65536) (h0 : -4194304 ≤ px ∧ px ≤ 4194304) (h1 : -4194304 ≤ py ∧ py ≤ 4194304) (h2 : -4194304 ≤ pz ∧ pz ≤ 4194304) (w : World) (hb : w.heap[b]? = some (.cells [.slice aj n cj, .slice am nm cm].toArray 26)) : Calls Tryz.prog 100 [.agg #[.int .i64 lk, .int .i64 ms, .int .i64 px, .int .i64 py, .int .i64 pz], .pointer (some ⟨b, 0, none⟩)].toArray w (Rets (vB (false)) (w)) := by
  refine yQ (n := 8) Tryz.func100 rfl rfl rfl ?_
  refine qJ ?_
  refine qZ ?_
  refine kK 2 rfl rfl rfl rfl ?_; intro b2
  refine qK (qW rfl) rfl rfl rfl ?_
  refine qU ?_
  refine qQ ?_
  refine qJ ?_
  refine qZ ?_
  refine qK (opV_loadA_blk hb ty26 rfl rfl) rfl rfl rfl ?_
  refine qK (zQ 2 ty114 rfl rfl rfl) rfl rfl rfl ?_
  refine kY (F := vB) (zY en101 rfl (fun w _ => cMass _ _ _ _ _ _ _ _ _ _ _ hlk hms h0 h1 h2 w)) rfl rfl rfl ?_; intro r6 hr6
  refine qK (opV_not rfl) rfl rfl rfl ?_
  refine qK (qW rfl) rfl rfl rfl ?_
  refine qU ?_
  refine qQ ?_
  refine yU ?_
  refine zH (rs := [.tmp 3]) rfl (resC (jU rfl) (resN)) (congrArg (vB) (?_ : _ = false))
  rw [hr6]; rfl
def MB (n : Nat) (m : Ms) : Prop := (0 ≤ m.link ∧ m.link < n) ∧ (1 ≤ m.mass ∧ m.mass ≤ 65536) ∧ (-4194304 ≤ m.p.x ∧ m.p.x ≤ 4194304) ∧ (-4194304 ≤ m.p.y ∧ m.p.y ≤ 4194304) ∧ (-4194304 ≤ m.p.z ∧ m.p.z ≤ 4194304)
theorem ixMs  (aj am : Option Addr) (cj nm cm n b : Nat) (l : List Ms) (hn : nm ≤ 1000) (hbn : l.length = nm) (hv : ∀ m ∈ l, MB n m) (w : World) (hT : SlcIs 5 am (l.map mc) w) (hb : w.heap[b]? = some (.cells [.slice aj n cj, .slice am nm cm].toArray 26)) : Calls Tryz.prog 136 [.slice am nm cm, .func (.func 100) #[] #[.pointer (some ⟨b, 0, none⟩)]].toArray w (Rets (vI (-1)) (w)) := by
  refine yQ (n := 19) Tryz.func136 rfl rfl rfl ?_
  refine qJ ?_
  refine qZ ?_
  refine qK (qW rfl) rfl rfl rfl ?_
  refine qU ?_
  refine qQ ?_
  refine qJ ?_
  refine qJ ?_
  refine qZ ?_
  refine qK (qY rfl) rfl rfl rfl ?_
  refine qK (opV_len_slice sl24 rfl) rfl rfl rfl ?_
  refine qK (qY rfl) rfl rfl rfl ?_
  refine qU ?_
  refine qQ ?_
  refine zK ?_
  refine doC_loopK [0, 1, 7] [] (α := Nat) (fun x => nm - x) (fun x => x ≤ nm) (fun _ => ⟨w, []⟩) (fun x => [(8, .int .i64 (x : Int))]) (fun _ => []) 0 rfl rfl ?_ ?_ ?_ ?_ rfl ?_
  ·
    exact Nat.zero_le _
  ·
    exact rfl
  ·
    repeat' first | exact trivial | exact True.intro | refine ⟨rfl, ?_⟩
  ·
    repeat' first | exact trivial | exact True.intro | refine ⟨rfl, ?_⟩
  rintro k hk
  try dsimp only at hk ⊢
  refine qJ ?_
  refine qZ ?_
  refine qK (yK rfl rfl) rfl rfl rfl ?_
  refine qU ?_
  refine qQ ?_
  refine qJ ?_
  refine jG rfl (fun hc9 => ?_) (fun hc9 => ?_)
  ·
    have h2 : k < nm := by have := of_decide_eq_true hc9; omega
    obtain ⟨m, hak⟩ : ∃ m, l[k]? = some m := ⟨_, List.getElem?_eq_getElem (by omega)⟩
    have ha : (l.map mc)[k]? = some (mc m) := by rw [List.getElem?_map, hak]; rfl
    obtain ⟨m1, m2, m3, m4, m5⟩ := hv m (List.mem_of_getElem? hak)
    refine zU ?_
    refine qQ ?_
    refine qJ ?_
    refine zK ?_
    refine qJ ?_
    refine qZ ?_
    refine qK (qY rfl) rfl rfl rfl ?_
    refine qK (qW rfl) rfl rfl rfl ?_
    refine qU ?_
    refine qQ ?_
    refine qJ ?_
    refine qZ ?_
    refine qK (qY rfl) rfl rfl rfl ?_
    refine qK (qY rfl) rfl rfl rfl ?_
    refine qK (qY rfl) rfl rfl rfl ?_
    refine qK (opV_indexS (e := 114) (holds_base hT) (by kernel_rfl) rfl rfl rfl ha h2) rfl rfl rfl ?_
    refine qK (opV_loadSA (vs := mc m) k 0 (holds_base hT) ha ty114 rfl rfl) rfl rfl rfl ?_
    refine kY (F := vB) (opV_callV en_mq rfl rfl rfl (fun w' k' => cMass1 aj am cj nm cm n b _ _ _ _ _ m1 m2 m3 m4 m5 w' (by rw [k'.grow.block b (kW hb)]; exact hb))) rfl rfl rfl ?_; intro r16 hr16
    refine qU ?_
    refine qQ ?_
    refine jW rfl (hr16) ?_
    refine zU ?_
    refine qV ?_
    refine qQ ?_
    refine qZ ?_
    refine qK (yJ rfl rfl (inc_nat (by omega))) rfl rfl rfl ?_
    refine qK (qY rfl) rfl rfl rfl ?_
    refine qU ?_
    refine post_again (k + 1) (by show k + 1 ≤ nm; omega) (by show nm - (k + 1) < nm - k; omega) rfl ?_ ?_ rfl
    repeat' first | exact trivial | exact True.intro | refine ⟨rfl, ?_⟩
  ·
    refine kH ?_
    refine zX ?_
    refine zX ?_
    refine yH ?_
    refine qQ ?_
    refine qJ ?_
    refine qZ ?_
    refine qK (qW rfl) rfl rfl rfl ?_
    refine qU ?_
    refine qQ ?_
    refine yU ?_
    refine zH (rs := [.tmp 4]) rfl (resC (jU rfl) (resN)) (congrArg (vI) (?_ : _ = -1))
    rfl
theorem hasMs  (aj am : Option Addr) (cj nm cm n b : Nat) (l : List Ms) (hn : nm ≤ 1000) (hbn : l.length = nm) (hv : ∀ m ∈ l, MB n m) (w : World) (hT : SlcIs 5 am (l.map mc) w) (hb : w.heap[b]? = some (.cells [.slice aj n cj, .slice am nm cm].toArray 26)) : Calls Tryz.prog 99 [.slice am nm cm, .func (.func 100) #[] #[.pointer (some ⟨b, 0, none⟩)]].toArray w (Rets (vB (false)) (w)) := by
  refine yQ (n := 9) Tryz.func99 rfl rfl rfl ?_
  refine qJ ?_
  refine qZ ?_
  refine qK (qW rfl) rfl rfl rfl ?_
  refine qU ?_
  refine qQ ?_
  refine qJ ?_
  refine qZ ?_
  refine qK (qY rfl) rfl rfl rfl ?_
  refine qK (qY rfl) rfl rfl rfl ?_
  refine kY (F := vI) (zY en136 rfl (fun w' k => ixMs aj am cj nm cm n b l hn hbn hv w' (slc_grow hT k.grow) (by rw [k.grow.block b (kW hb)]; exact hb))) rfl rfl rfl ?_; intro r7 hr7
  refine qK (opV_geq rfl rfl) rfl rfl rfl ?_
  refine qK (qW rfl) rfl rfl rfl ?_
  refine qU ?_
  refine qQ ?_
  refine yU ?_
  refine zH (rs := [.tmp 4]) rfl (resC (jU rfl) (resN)) (congrArg (vB) (?_ : _ = false))
  rw [hr7]; rfl
end Go.Proofs.YtnlnbnjnapofmaaGreat
namespace Go.Proofs.YtnlnbnjnapofmaaGreat
open Go.Sx
theorem en98 : Enters Tryz.prog 98 := yW Tryz.func98 (by kernel_rfl) (by kernel_rfl)
theorem en99 : Enters Tryz.prog 99 := yW Tryz.func99 (by kernel_rfl) (by kernel_rfl)
def JOK (js : List J) (i : Nat) (j : J) : Prop := ∃ c : Nat, (∀ (k : Nat), k < i → ∀ (j2 : J), js[k]? = some j2 → (j2.name.toList == j.name.toList) = false) ∧ j.name.size = 1 ∧ Utf8.decode j.name 0 = (c, 1) ∧ (97 ≤ c ∧ c ≤ 122) ∧ (j.name.toList == (ByteArray.mk #[119, 111, 114, 108, 100]).toList) = false ∧
    (0 ≤ j.kind ∧ j.kind ≤ 6) ∧ (-1 ≤ j.parent ∧ j.parent < i) ∧ (-4194304 ≤ j.off.x ∧ j.off.x ≤ 4194304) ∧ (-4194304 ≤ j.off.y ∧ j.off.y ≤ 4194304) ∧ (-4194304 ≤ j.off.z ∧ j.off.z ≤ 4194304) ∧ (j.lo ≤ j.hi ∧ -limK j.kind ≤ j.lo ∧ j.hi ≤ limK j.kind) ∧
    (1 ≤ j.weight ∧ j.weight ≤ 1024) ∧ (1 ≤ j.speed ∧ j.speed ≤ 1048576) ∧ (1 ≤ j.accel ∧ j.accel ≤ 1048576) ∧ (1 ≤ j.torque ∧ j.torque ≤ 1099511627776)
theorem cJok (aj am : Option Addr) (cj nm cm n i : Nat) (js : List J) (j : J) (hn : n ≤ 1000) (hjn : js.length = n) (hin : i < n) (hjk : js[i]? = some j) (h : JOK js i j) (w : World) (hS : SlcIs 12 aj (js.map jc) w) :
    Calls Tryz.prog 98 [.agg #[.slice aj n cj, .slice am nm cm], .int .i64 (i : Int)].toArray w (Rets (vI (0 : Int)) w) := by
  obtain ⟨c, a1, a2, a3, a4, a5, a6, a7, a8, a9, a10, a11, a12, a13, a14, a15⟩ := h
  exact cJoint aj am cj nm cm n i js j c hn hjn hin hjk a1 a2 a3 a4 a5 a6 a7 a8 a9 a10 a11 a12 a13 a14 a15 w hS
theorem cCheck  (aj am : Option Addr) (cj nm cm n : Nat) (js : List J) (l : List Ms) (hn : 1 ≤ n ∧ n ≤ 10) (hm : nm ≤ 32) (hjn : js.length = n) (hln : l.length = nm) (hJ : ∀ (i : Nat) (j : J), js[i]? = some j → JOK js i j) (hv : ∀ m ∈ l, MB n m) (w : World) (hS : SlcIs 12 aj (js.map jc) w) (hT : SlcIs 5 am (l.map mc) w) : Calls Tryz.prog 67 [.agg #[.slice aj n cj, .slice am nm cm]].toArray w (Rets (vI ((0 : Int))) (w)) := by
  refine yQ (n := 38) Tryz.func67 rfl rfl rfl ?_
  refine qJ ?_
  refine qZ ?_
  refine kK 1 rfl rfl rfl rfl ?_; intro b1
  refine qK (qW rfl) rfl rfl rfl ?_
  refine qU ?_
  refine qQ ?_
  refine qJ ?_
  refine qJ ?_
  refine qZ ?_
  refine qK (qH fa26_0 rfl) rfl rfl rfl ?_
  refine qK (zJ 1 ty23 rfl rfl rfl) rfl rfl rfl ?_
  refine qK (opV_len_slice sl23 rfl) rfl rfl rfl ?_
  refine qK (uU rfl rfl) rfl rfl rfl ?_
  refine qK (qY rfl) rfl rfl rfl ?_
  refine doL_false 9 rfl (by rw [decide_eq_false_iff_not]; omega) ?_
  refine qK (qH fa26_0 rfl) rfl rfl rfl ?_
  refine qK (zJ 1 ty23 rfl rfl rfl) rfl rfl rfl ?_
  refine qK (opV_len_slice sl23 rfl) rfl rfl rfl ?_
  refine qK (opV_gtr rfl rfl) rfl rfl rfl ?_
  refine qK (kV rfl rfl rfl rfl) rfl rfl rfl ?_
  refine qU ?_
  refine qQ ?_
  refine jW rfl (by rw [decide_eq_false_iff_not]; omega) ?_
  refine zU ?_
  refine qQ ?_
  refine qJ ?_
  refine qJ ?_
  refine qZ ?_
  refine qK (qH fa26_0 rfl) rfl rfl rfl ?_
  refine qK (zJ 1 ty23 rfl rfl rfl) rfl rfl rfl ?_
  refine qK (opV_len_slice sl23 rfl) rfl rfl rfl ?_
  refine qK (qY rfl) rfl rfl rfl ?_
  refine qU ?_
  refine qQ ?_
  refine zK ?_
  refine doC_loopK [1, 17] [1] (α := Nat) (fun x => n - x) (fun x => x ≤ n) (fun _ => ⟨w, []⟩) (fun x => [(18, .int .i64 (x : Int))]) (fun _ => []) 0 rfl rfl ?_ ?_ ?_ ?_ rfl ?_
  ·
    exact Nat.zero_le _
  ·
    exact rfl
  ·
    repeat' first | exact trivial | exact True.intro | refine ⟨rfl, ?_⟩
  ·
    repeat' first | exact trivial | exact True.intro | refine ⟨rfl, ?_⟩
  rintro i hi
  try dsimp only at hi ⊢
  refine qJ ?_
  refine qZ ?_
  refine qK (yK rfl rfl) rfl rfl rfl ?_
  refine qU ?_
  refine qQ ?_
  refine qJ ?_
  refine jG rfl (fun hc19 => ?_) (fun hc19 => ?_)
  ·
    have h2 : i < n := by have := of_decide_eq_true hc19; omega
    obtain ⟨j, hjk⟩ : ∃ j, js[i]? = some j := ⟨_, List.getElem?_eq_getElem (by omega)⟩
    refine zU ?_
    refine qQ ?_
    refine qJ ?_
    refine zK ?_
    refine qJ ?_
    refine qZ ?_
    refine qK (qY rfl) rfl rfl rfl ?_
    refine qK (qW rfl) rfl rfl rfl ?_
    refine qU ?_
    refine qQ ?_
    refine qJ ?_
    refine qZ ?_
    refine qK (zQ 1 ty26 rfl rfl rfl) rfl rfl rfl ?_
    refine qK (qY rfl) rfl rfl rfl ?_
    refine kY (F := vI) (zY en98 rfl (fun w' k => cJok aj am cj nm cm n i js j (by omega) hjn h2 hjk (hJ i j hjk) w' (slc_grow hS k.grow))) rfl rfl rfl ?_; intro r23 hr23
    refine qK (qW rfl) rfl rfl rfl ?_
    refine qU ?_
    refine qQ ?_
    refine qJ ?_
    refine qZ ?_
    refine qK (qY rfl) rfl rfl rfl ?_
    refine qK (opV_neq rfl rfl) rfl rfl rfl ?_
    refine qU ?_
    refine qQ ?_
    refine jW rfl (by rw [hr23]; rfl) ?_
    refine zU ?_
    refine qV ?_
    refine qQ ?_
    refine qZ ?_
    refine qK (yJ rfl rfl (inc_nat (by omega))) rfl rfl rfl ?_
    refine qK (qY rfl) rfl rfl rfl ?_
    refine qU ?_
    refine post_again (i + 1) (by show i + 1 ≤ n; omega) (by show n - (i + 1) < n - i; omega) rfl ?_ ?_ rfl
    repeat' first | exact trivial | exact True.intro | refine ⟨rfl, ?_⟩
  ·
    refine kH ?_
    refine zX ?_
    refine zX ?_
    refine yH ?_
    refine qQ ?_
    refine qJ ?_
    refine qJ ?_
    refine qZ ?_
    refine qK (qH fa26_1 rfl) rfl rfl rfl ?_
    refine qK (zJ 1 ty24 rfl rfl rfl) rfl rfl rfl ?_
    refine qK (opV_len_slice sl24 rfl) rfl rfl rfl ?_
    refine qK (opV_gtr rfl rfl) rfl rfl rfl ?_
    refine qK (qY rfl) rfl rfl rfl ?_
    refine doL_false 32 rfl (by rw [decide_eq_false_iff_not]; omega) ?_
    refine qK (qH fa26_1 rfl) rfl rfl rfl ?_
    refine qK (zJ 1 ty24 rfl rfl rfl) rfl rfl rfl ?_
    refine qK (opV_makeFunc rfl rfl) rfl rfl rfl ?_
    refine kY (F := vB) (zY en99 rfl (fun w' k => hasMs aj am cj nm cm n b1 l (by omega) hln hv w' (slc_grow hT k.grow) (k.at (i := 1) rfl).2)) rfl rfl rfl ?_; intro r36 hr36
    refine qK (kV rfl rfl rfl rfl) rfl rfl rfl ?_
    refine qU ?_
    refine qQ ?_
    refine jW rfl (hr36) ?_
    refine zU ?_
    refine qQ ?_
    refine qJ ?_
    refine qZ ?_
    refine qK (qW rfl) rfl rfl rfl ?_
    refine qU ?_
    refine qQ ?_
    refine yU ?_
    refine zH (rs := [.tmp 2]) rfl (resC (jU rfl) (resN)) (congrArg (vI) (?_ : _ = (0 : Int)))
    rfl
end Go.Proofs.YtnlnbnjnapofmaaGreat
namespace Go.Proofs.YtnlnbnjnapofmaaGreat
open Go.Sx Go.RowKit
theorem let0 : (letterB 0).size = 1 ∧ Utf8.decode (letterB 0) 0 = (97, 1) ∧ ((letterB 0).toList == (ByteArray.mk #[119, 111, 114, 108, 100]).toList) = false := by refine ⟨?_, ?_, ?_⟩ <;> kernel_rfl
theorem let1 : (letterB 1).size = 1 ∧ Utf8.decode (letterB 1) 0 = (98, 1) ∧ ((letterB 1).toList == (ByteArray.mk #[119, 111, 114, 108, 100]).toList) = false := by refine ⟨?_, ?_, ?_⟩ <;> kernel_rfl
theorem let2 : (letterB 2).size = 1 ∧ Utf8.decode (letterB 2) 0 = (99, 1) ∧ ((letterB 2).toList == (ByteArray.mk #[119, 111, 114, 108, 100]).toList) = false := by refine ⟨?_, ?_, ?_⟩ <;> kernel_rfl
theorem ne01 : ((letterB 0).toList == (letterB 1).toList) = false := by kernel_rfl
theorem ne02 : ((letterB 0).toList == (letterB 2).toList) = false := by kernel_rfl
theorem ne12 : ((letterB 1).toList == (letterB 2).toList) = false := by kernel_rfl
theorem letter_ok (k : Nat) (h : k < 3) : ∃ c : Nat, (letterB k).size = 1 ∧ Utf8.decode (letterB k) 0 = (c, 1) ∧ (97 ≤ c ∧ c ≤ 122) ∧ ((letterB k).toList == (ByteArray.mk #[119, 111, 114, 108, 100]).toList) = false := by
  rcases (show k = 0 ∨ k = 1 ∨ k = 2 by omega) with rfl | rfl | rfl
  · exact ⟨97, let0.1, let0.2.1, by omega, let0.2.2⟩
  · exact ⟨98, let1.1, let1.2.1, by omega, let1.2.2⟩
  · exact ⟨99, let2.1, let2.2.1, by omega, let2.2.2⟩
theorem letter_ne (a b : Nat) (h : a < b) (hb : b < 3) : ((letterB a).toList == (letterB b).toList) = false := by
  rcases (show (a = 0 ∧ b = 1) ∨ (a = 0 ∧ b = 2) ∨ (a = 1 ∧ b = 2) by omega) with ⟨rfl, rfl⟩ | ⟨rfl, rfl⟩ | ⟨rfl, rfl⟩
  · exact ne01
  · exact ne02
  · exact ne12
theorem joint_lim (L : List Int) (p : Nat) (k : Int) : -limK (jointOf L p k).1.kind ≤ (jointOf L p k).1.lo ∧ (jointOf L p k).1.hi ≤ limK (jointOf L p k).1.kind := by
  have hk := (jointOf_same L p k).2.1
  rw [hk]
  by_cases h0 : kindOf (srcR L (p + 2) 8) = 0
  · rw [jointOf_fix h0, h0]
    exact ⟨by show -limK 0 ≤ 0; decide, by show 0 ≤ limK 0; decide⟩
  · by_cases h : kindOf (srcR L (p + 2) 8) = 4 ∨ kindOf (srcR L (p + 2) 8) = 5
    · rw [jointOf_sl h]
      have a := srcR_bnd L (jQ p k) (k := 3) (by decide)
      have b := srcR_bnd L (jQ p k + 1) (k := 4) (by decide)
      have e : limK (kindOf (srcR L (p + 2) 8)) = 4194304 := by unfold limK; rw [if_neg (by omega), if_pos (by omega)]
      rw [e]
      dsimp only
      omega
    · rw [jointOf_tu h0 h]
      have a := srcR_bnd L (jQ p k) (k := 5) (by decide)
      have b := srcR_bnd L (jQ p k + 1) (k := 4) (by decide)
      have c := srcR_bnd L (jQ p k + 2) (k := 3) (by decide)
      have e : 524288 ≤ limK (kindOf (srcR L (p + 2) 8)) := by
        have := kindOf_b (srcR L (p + 2) 8)
        unfold limK
        repeat' split
        all_goals omega
      dsimp only
      rw [Int.tdiv_eq_ediv_of_nonneg (a := (1 + srcR L (jQ p k + 1) 4) * 65536) (by omega), show (-srcR L (jQ p k) 5 * 65536).tdiv 8 = -(srcR L (jQ p k) 5 * 8192) by
        rw [show -srcR L (jQ p k) 5 * 65536 = -(srcR L (jQ p k) 5 * 8192) * 8 by omega]
        exact Int.mul_tdiv_cancel _ (by decide)]
      omega
theorem base_b (L : List Int) (p k : Nat) : (-1 ≤ (jBase L p (k : Int)).parent ∧ (jBase L p (k : Int)).parent < k) ∧ (-4194304 ≤ (jBase L p (k : Int)).off.x ∧ (jBase L p (k : Int)).off.x ≤ 4194304) ∧ (-4194304 ≤ (jBase L p (k : Int)).off.y ∧ (jBase L p (k : Int)).off.y ≤ 4194304) ∧ (-4194304 ≤ (jBase L p (k : Int)).off.z ∧ (jBase L p (k : Int)).off.z ≤ 4194304) := by
  have c := srcR_bnd L (p + 4) (k := 2 * 2 + 1) (by decide)
  have d := srcR_bnd L (p + 5) (k := 2 * 1 + 1) (by decide)
  unfold jBase srcS
  dsimp only
  refine ⟨?_, ?_⟩
  · split <;> omega
  · split <;> (dsimp only; omega)
theorem made_JOK (L : List Int) (i n : Nat) (hn : n ≤ 3) (k : Nat) (j : J) (h : (jsOf L i n).1[k]? = some j) : JOK (jsOf L i n).1 k j := by
  have hk : k < n := by have := (List.getElem?_eq_some_iff.1 h).1; rw [jsOf_len] at this; exact this
  obtain ⟨p, rfl⟩ := jsOf_get L i n k j h
  obtain ⟨s1, s2, s3, s4, s5, s6, s7, s8⟩ := jointOf_same L p (k : Int)
  obtain ⟨c, l1, l2, l3, l4⟩ := letter_ok k (by omega)
  obtain ⟨b1, b2, b3, b4⟩ := base_b L p k
  have lim := joint_lim L p (k : Int)
  have jb := jointOf_b L p (k : Int)
  have a := srcR_bnd L p (k := 4) (by decide)
  have b := srcR_bnd L (p + 1) (k := 3) (by decide)
  refine ⟨c, fun q hq j2 h2 => ?_, by rw [s1]; exact l1, by rw [s1]; exact l2, l3, by rw [s1]; exact l4, by rw [s2]; exact kindOf_b _, by rw [s3]; exact b1, by rw [s4]; exact b2, by rw [s4]; exact b3, by rw [s4]; exact b4, ⟨jb.2.1, lim.1, lim.2⟩, by rw [s5]; omega, by rw [s6]; omega, by rw [s7]; omega, by rw [s8]; omega⟩
  obtain ⟨p2, rfl⟩ := jsOf_get L i n q j2 h2
  rw [(jointOf_same L p2 (q : Int)).1, s1]
  exact letter_ne q k hq (by omega)
end Go.Proofs.YtnlnbnjnapofmaaGreat
namespace Go.Proofs.YtnlnbnjnapofmaaGreat
open Go.Sx
theorem en176 : Enters Tryz.prog 176 := yW Tryz.func176 (by kernel_rfl) (by kernel_rfl)
theorem en177 : Enters Tryz.prog 177 := yW Tryz.func177 (by kernel_rfl) (by kernel_rfl)
theorem ze197 : zeroIs Tryz.prog 197 (.agg #[.nilFunc]) := by unfold zeroIs; kernel_rfl
theorem la197 : layoutOf Tryz.prog 197 = some ([.nilFunc], [(0, 1)]) := by kernel_rfl
theorem ty197 : tyB Tryz.prog 197 true 1 = true := by kernel_rfl
theorem en158 : Enters Tryz.prog 158 := yW Tryz.func158 (by kernel_rfl) (by kernel_rfl)
theorem fl197_0 : fldB Tryz.prog 197 0 0 = true := by kernel_rfl
theorem en141 : Enters Tryz.prog 141 := yW Tryz.func141 (by kernel_rfl) (by kernel_rfl)
theorem kTurn (k : Int) (a0 a1 : Int) (w : World) : Calls Tryz.prog 166 [.int .i64 k, .agg #[.int .i64 a0, .int .i64 a1]].toArray w (Rets (po (Po.turn k (⟨a0, a1⟩ : Iv))) (w)) := by
  refine yQ (n := 8) Tryz.func166 rfl rfl rfl ?_
  refine qJ ?_
  refine qZ ?_
  refine kK 3 rfl rfl rfl rfl ?_; intro b3
  refine jZ 4 ze134 rfl rfl rfl ?_; intro b4
  refine qU ?_
  refine qQ ?_
  refine qJ ?_
  refine qZ ?_
  refine qK (qY rfl) rfl rfl rfl ?_
  refine qK (zQ 3 ty88 rfl rfl rfl) rfl rfl rfl ?_
  refine kY (F := po) (zY en176 rfl (fun w _ => pTurn _ _ _  w)) rfl rfl rfl ?_; intro r7 hr7
  refine zZ 4 ty134 rfl rfl rfl rfl rfl rfl rfl rfl ?_
  refine qU ?_
  refine qQ ?_
  refine yU ?_
  refine zH (rs := [.cell 4 134]) rfl (resC (yY 4 rfl rfl ty134 rfl) (resN)) (congrArg (po) (?_ : ⟨⟨⟨⟨_, _⟩, ⟨_, _⟩, ⟨_, _⟩⟩, ⟨⟨_, _⟩, ⟨_, _⟩, ⟨_, _⟩⟩, ⟨⟨_, _⟩, ⟨_, _⟩, ⟨_, _⟩⟩⟩, ⟨⟨_, _⟩, ⟨_, _⟩, ⟨_, _⟩⟩⟩ = Po.turn k (⟨a0, a1⟩ : Iv)))
  subst_vars; rfl
theorem kSlide (k : Int) (a0 a1 : Int) (hk : 0 ≤ k ∧ k ≤ 2) (w : World) : Calls Tryz.prog 167 [.int .i64 k, .agg #[.int .i64 a0, .int .i64 a1]].toArray w (Rets (po (Po.shift (V3.put k (⟨a0, a1⟩ : Iv)))) (w)) := by
  refine yQ (n := 11) Tryz.func167 rfl rfl rfl ?_
  refine qJ ?_
  refine qZ ?_
  refine kK 3 rfl rfl rfl rfl ?_; intro b3
  refine jZ 4 ze134 rfl rfl rfl ?_; intro b4
  refine qU ?_
  refine qQ ?_
  refine qJ ?_
  refine qZ ?_
  refine jZ 5 ze127 rfl rfl rfl ?_; intro b5
  refine qU ?_
  refine qQ ?_
  refine qJ ?_
  rcases (show k = 0 ∨ k = 1 ∨ k = 2 by omega) with rfl | rfl | rfl
  ·
    refine qZ ?_
    refine qK (qY rfl) rfl rfl rfl ?_
    refine qK (zQ 3 ty88 rfl rfl rfl) rfl rfl rfl ?_
    refine qK (qX ar127 rfl rfl (by first | decide | omega) (by first | decide | omega)) rfl rfl rfl ?_
    refine zZ 5 ty88 rfl rfl rfl rfl rfl rfl rfl rfl ?_
    refine qU ?_
    refine qQ ?_
    refine qJ ?_
    refine qZ ?_
    refine qK (zQ 5 ty127 rfl rfl rfl) rfl rfl rfl ?_
    refine kY (F := po) (zY en157 rfl (fun w _ => pShift _ _ _ _ _ _  w)) rfl rfl rfl ?_; intro r10 hr10
    refine zZ 4 ty134 rfl rfl rfl rfl rfl rfl rfl rfl ?_
    refine qU ?_
    refine qQ ?_
    refine yU ?_
    refine zH (rs := [.cell 4 134]) rfl (resC (yY 4 rfl rfl ty134 rfl) (resN)) (congrArg (po) (?_ : ⟨⟨⟨⟨_, _⟩, ⟨_, _⟩, ⟨_, _⟩⟩, ⟨⟨_, _⟩, ⟨_, _⟩, ⟨_, _⟩⟩, ⟨⟨_, _⟩, ⟨_, _⟩, ⟨_, _⟩⟩⟩, ⟨⟨_, _⟩, ⟨_, _⟩, ⟨_, _⟩⟩⟩ = Po.shift (V3.put 0 (⟨a0, a1⟩ : Iv))))
    subst_vars; rfl
  ·
    refine qZ ?_
    refine qK (qY rfl) rfl rfl rfl ?_
    refine qK (zQ 3 ty88 rfl rfl rfl) rfl rfl rfl ?_
    refine qK (qX ar127 rfl rfl (by first | decide | omega) (by first | decide | omega)) rfl rfl rfl ?_
    refine zZ 5 ty88 rfl rfl rfl rfl rfl rfl rfl rfl ?_
    refine qU ?_
    refine qQ ?_
    refine qJ ?_
    refine qZ ?_
    refine qK (zQ 5 ty127 rfl rfl rfl) rfl rfl rfl ?_
    refine kY (F := po) (zY en157 rfl (fun w _ => pShift _ _ _ _ _ _  w)) rfl rfl rfl ?_; intro r10 hr10
    refine zZ 4 ty134 rfl rfl rfl rfl rfl rfl rfl rfl ?_
    refine qU ?_
    refine qQ ?_
    refine yU ?_
    refine zH (rs := [.cell 4 134]) rfl (resC (yY 4 rfl rfl ty134 rfl) (resN)) (congrArg (po) (?_ : ⟨⟨⟨⟨_, _⟩, ⟨_, _⟩, ⟨_, _⟩⟩, ⟨⟨_, _⟩, ⟨_, _⟩, ⟨_, _⟩⟩, ⟨⟨_, _⟩, ⟨_, _⟩, ⟨_, _⟩⟩⟩, ⟨⟨_, _⟩, ⟨_, _⟩, ⟨_, _⟩⟩⟩ = Po.shift (V3.put 1 (⟨a0, a1⟩ : Iv))))
    subst_vars; rfl
  ·
    refine qZ ?_
    refine qK (qY rfl) rfl rfl rfl ?_
    refine qK (zQ 3 ty88 rfl rfl rfl) rfl rfl rfl ?_
    refine qK (qX ar127 rfl rfl (by first | decide | omega) (by first | decide | omega)) rfl rfl rfl ?_
    refine zZ 5 ty88 rfl rfl rfl rfl rfl rfl rfl rfl ?_
    refine qU ?_
    refine qQ ?_
    refine qJ ?_
    refine qZ ?_
    refine qK (zQ 5 ty127 rfl rfl rfl) rfl rfl rfl ?_
    refine kY (F := po) (zY en157 rfl (fun w _ => pShift _ _ _ _ _ _  w)) rfl rfl rfl ?_; intro r10 hr10
    refine zZ 4 ty134 rfl rfl rfl rfl rfl rfl rfl rfl ?_
    refine qU ?_
    refine qQ ?_
    refine yU ?_
    refine zH (rs := [.cell 4 134]) rfl (resC (yY 4 rfl rfl ty134 rfl) (resN)) (congrArg (po) (?_ : ⟨⟨⟨⟨_, _⟩, ⟨_, _⟩, ⟨_, _⟩⟩, ⟨⟨_, _⟩, ⟨_, _⟩, ⟨_, _⟩⟩, ⟨⟨_, _⟩, ⟨_, _⟩, ⟨_, _⟩⟩⟩, ⟨⟨_, _⟩, ⟨_, _⟩, ⟨_, _⟩⟩⟩ = Po.shift (V3.put 2 (⟨a0, a1⟩ : Iv))))
    subst_vars; rfl
theorem kRest (k : Int) (a0 a1 : Int) (w : World) : Calls Tryz.prog 168 [.int .i64 k, .agg #[.int .i64 a0, .int .i64 a1]].toArray w (Rets (po (Po.rest)) (w)) := by
  refine yQ (n := 6) Tryz.func168 rfl rfl rfl ?_
  refine qJ ?_
  refine qZ ?_
  refine kK 3 rfl rfl rfl rfl ?_; intro b3
  refine jZ 4 ze134 rfl rfl rfl ?_; intro b4
  refine qU ?_
  refine qQ ?_
  refine qJ ?_
  refine qZ ?_
  refine kY (F := po) (zY en177 rfl (fun w _ => pIdentity   w)) rfl rfl rfl ?_; intro r5 hr5
  refine zZ 4 ty134 rfl rfl rfl rfl rfl rfl rfl rfl ?_
  refine qU ?_
  refine qQ ?_
  refine yU ?_
  refine zH (rs := [.cell 4 134]) rfl (resC (yY 4 rfl rfl ty134 rfl) (resN)) (congrArg (po) (?_ : ⟨⟨⟨⟨_, _⟩, ⟨_, _⟩, ⟨_, _⟩⟩, ⟨⟨_, _⟩, ⟨_, _⟩, ⟨_, _⟩⟩, ⟨⟨_, _⟩, ⟨_, _⟩, ⟨_, _⟩⟩⟩, ⟨⟨_, _⟩, ⟨_, _⟩, ⟨_, _⟩⟩⟩ = Po.rest))
  subst_vars; rfl
theorem kMotion (k : Int) (w : World) : Calls Tryz.prog 158 [.int .i64 k].toArray w (Rets (motV 166 167 168 k) w) := by
  refine yQ (n := 22) Tryz.func158 rfl rfl rfl ?_
  refine qJ ?_
  refine qZ ?_
  refine jZ 2 ze197 rfl rfl rfl ?_; intro b2
  refine qU ?_
  refine qQ ?_
  refine qJ ?_
  refine qJ ?_
  refine qZ ?_
  refine qK (qY rfl) rfl rfl rfl ?_
  refine qU ?_
  refine qQ ?_
  refine zK ?_
  refine qJ ?_
  refine qJ ?_
  refine qZ ?_
  refine qK (uU rfl rfl) rfl rfl rfl ?_
  refine qK (qW rfl) rfl rfl rfl ?_
  refine qU ?_
  refine qQ ?_
  refine jG rfl (fun hc4 => ?_) (fun hc4 => ?_)
  ·
    have e := of_decide_eq_true hc4
    refine zU ?_
    refine qQ ?_
    refine zV rfl (hc4) ?_
    refine qJ ?_
    refine qZ ?_
    refine qK (qY rfl) rfl rfl rfl ?_
    refine qK (opV_sub rfl rfl (by first | exact zG ⟨by omega, by omega⟩ | rfl)) rfl rfl rfl ?_
    refine qK (opV_makeFunc rfl rfl) rfl rfl rfl ?_
    refine qK (jV la197 rfl rfl) rfl rfl rfl ?_
    refine zZ 2 ty197 rfl rfl rfl rfl rfl rfl rfl rfl ?_
    refine qU ?_
    refine qQ ?_
    refine yU ?_
    refine kJ ?_
    refine kQ ?_
    refine post_ret (rs := [.cell 2 197]) rfl (resC (yY 2 rfl rfl ty197 rfl) (resN)) rfl ?_
    intro w2 kn
    exact ⟨congrArg Ending.returned (by first | exact (mot_t (by omega)).symm | exact (mot_s (by omega)).symm | exact (mot_r (by omega) (by omega)).symm), kn.grow⟩
  ·
    have e := of_decide_eq_false hc4
    refine qJ ?_
    refine qZ ?_
    refine qK (uU rfl rfl) rfl rfl rfl ?_
    refine qK (qW rfl) rfl rfl rfl ?_
    refine qU ?_
    refine qQ ?_
    refine jG rfl (fun hc4_2 => ?_) (fun hc4_2 => ?_)
    ·
      have e := of_decide_eq_true hc4_2
      refine zU ?_
      refine qQ ?_
      refine zV rfl (hc4_2) ?_
      refine qJ ?_
      refine qZ ?_
      refine qK (qY rfl) rfl rfl rfl ?_
      refine qK (opV_sub rfl rfl (by first | exact zG ⟨by omega, by omega⟩ | rfl)) rfl rfl rfl ?_
      refine qK (opV_makeFunc rfl rfl) rfl rfl rfl ?_
      refine qK (jV la197 rfl rfl) rfl rfl rfl ?_
      refine zZ 2 ty197 rfl rfl rfl rfl rfl rfl rfl rfl ?_
      refine qU ?_
      refine qQ ?_
      refine yU ?_
      refine kJ ?_
      refine kQ ?_
      refine post_ret (rs := [.cell 2 197]) rfl (resC (yY 2 rfl rfl ty197 rfl) (resN)) rfl ?_
      intro w2 kn
      exact ⟨congrArg Ending.returned (by first | exact (mot_t (by omega)).symm | exact (mot_s (by omega)).symm | exact (mot_r (by omega) (by omega)).symm), kn.grow⟩
    ·
      have e := of_decide_eq_false hc4_2
      refine qZ ?_
      refine qK (uU rfl rfl) rfl rfl rfl ?_
      refine qK (qW rfl) rfl rfl rfl ?_
      refine qU ?_
      refine qQ ?_
      refine jG rfl (fun hc4_3 => ?_) (fun hc4_3 => ?_)
      ·
        have e := of_decide_eq_true hc4_3
        refine qJ ?_
        refine qZ ?_
        refine qK (qY rfl) rfl rfl rfl ?_
        refine qK (opV_sub rfl rfl (by first | exact zG ⟨by omega, by omega⟩ | rfl)) rfl rfl rfl ?_
        refine qK (opV_makeFunc rfl rfl) rfl rfl rfl ?_
        refine qK (jV la197 rfl rfl) rfl rfl rfl ?_
        refine zZ 2 ty197 rfl rfl rfl rfl rfl rfl rfl rfl ?_
        refine qU ?_
        refine qQ ?_
        refine yU ?_
        refine kJ ?_
        refine kQ ?_
        refine post_ret (rs := [.cell 2 197]) rfl (resC (yY 2 rfl rfl ty197 rfl) (resN)) rfl ?_
        intro w2 kn
        exact ⟨congrArg Ending.returned (by first | exact (mot_t (by omega)).symm | exact (mot_s (by omega)).symm | exact (mot_r (by omega) (by omega)).symm), kn.grow⟩
      ·
        have e := of_decide_eq_false hc4_3
        refine qJ ?_
        refine qJ ?_
        refine qZ ?_
        refine qK (uU rfl rfl) rfl rfl rfl ?_
        refine qK (qW rfl) rfl rfl rfl ?_
        refine qU ?_
        refine qQ ?_
        refine jG rfl (fun hc12 => ?_) (fun hc12 => ?_)
        ·
          have e := of_decide_eq_true hc12
          refine zU ?_
          refine qQ ?_
          refine zV rfl (hc12) ?_
          refine qJ ?_
          refine qZ ?_
          refine qK (qY rfl) rfl rfl rfl ?_
          refine qK (opV_sub rfl rfl (by first | exact zG ⟨by omega, by omega⟩ | rfl)) rfl rfl rfl ?_
          refine qK (opV_makeFunc rfl rfl) rfl rfl rfl ?_
          refine qK (jV la197 rfl rfl) rfl rfl rfl ?_
          refine zZ 2 ty197 rfl rfl rfl rfl rfl rfl rfl rfl ?_
          refine qU ?_
          refine qQ ?_
          refine yU ?_
          refine kJ ?_
          refine kQ ?_
          refine post_ret (rs := [.cell 2 197]) rfl (resC (yY 2 rfl rfl ty197 rfl) (resN)) rfl ?_
          intro w2 kn
          exact ⟨congrArg Ending.returned (by first | exact (mot_t (by omega)).symm | exact (mot_s (by omega)).symm | exact (mot_r (by omega) (by omega)).symm), kn.grow⟩
        ·
          have e := of_decide_eq_false hc12
          refine qJ ?_
          refine qZ ?_
          refine qK (uU rfl rfl) rfl rfl rfl ?_
          refine qK (qW rfl) rfl rfl rfl ?_
          refine qU ?_
          refine qQ ?_
          refine jG rfl (fun hc12_2 => ?_) (fun hc12_2 => ?_)
          ·
            have e := of_decide_eq_true hc12_2
            refine zU ?_
            refine qQ ?_
            refine zV rfl (hc12_2) ?_
            refine qJ ?_
            refine qZ ?_
            refine qK (qY rfl) rfl rfl rfl ?_
            refine qK (opV_sub rfl rfl (by first | exact zG ⟨by omega, by omega⟩ | rfl)) rfl rfl rfl ?_
            refine qK (opV_makeFunc rfl rfl) rfl rfl rfl ?_
            refine qK (jV la197 rfl rfl) rfl rfl rfl ?_
            refine zZ 2 ty197 rfl rfl rfl rfl rfl rfl rfl rfl ?_
            refine qU ?_
            refine qQ ?_
            refine yU ?_
            refine kJ ?_
            refine kQ ?_
            refine post_ret (rs := [.cell 2 197]) rfl (resC (yY 2 rfl rfl ty197 rfl) (resN)) rfl ?_
            intro w2 kn
            exact ⟨congrArg Ending.returned (by first | exact (mot_t (by omega)).symm | exact (mot_s (by omega)).symm | exact (mot_r (by omega) (by omega)).symm), kn.grow⟩
          ·
            have e := of_decide_eq_false hc12_2
            refine qZ ?_
            refine qK (uU rfl rfl) rfl rfl rfl ?_
            refine qK (qW rfl) rfl rfl rfl ?_
            refine qU ?_
            refine qQ ?_
            refine jG rfl (fun hc12_3 => ?_) (fun hc12_3 => ?_)
            ·
              have e := of_decide_eq_true hc12_3
              refine qJ ?_
              refine qZ ?_
              refine qK (qY rfl) rfl rfl rfl ?_
              refine qK (opV_sub rfl rfl (by first | exact zG ⟨by omega, by omega⟩ | rfl)) rfl rfl rfl ?_
              refine qK (opV_makeFunc rfl rfl) rfl rfl rfl ?_
              refine qK (jV la197 rfl rfl) rfl rfl rfl ?_
              refine zZ 2 ty197 rfl rfl rfl rfl rfl rfl rfl rfl ?_
              refine qU ?_
              refine qQ ?_
              refine yU ?_
              refine kJ ?_
              refine kQ ?_
              refine post_ret (rs := [.cell 2 197]) rfl (resC (yY 2 rfl rfl ty197 rfl) (resN)) rfl ?_
              intro w2 kn
              exact ⟨congrArg Ending.returned (by first | exact (mot_t (by omega)).symm | exact (mot_s (by omega)).symm | exact (mot_r (by omega) (by omega)).symm), kn.grow⟩
            ·
              have e := of_decide_eq_false hc12_3
              refine zU ?_
              refine qV ?_
              refine qQ ?_
              refine qJ ?_
              refine qZ ?_
              refine qK (opV_makeFunc rfl rfl) rfl rfl rfl ?_
              refine qK (jV la197 rfl rfl) rfl rfl rfl ?_
              refine zZ 2 ty197 rfl rfl rfl rfl rfl rfl rfl rfl ?_
              refine qU ?_
              refine qQ ?_
              refine yU ?_
              refine post_ret (rs := [.cell 2 197]) rfl (resC (yY 2 rfl rfl ty197 rfl) (resN)) rfl ?_
              intro w2 kn
              exact ⟨congrArg Ending.returned (by first | exact (mot_t (by omega)).symm | exact (mot_s (by omega)).symm | exact (mot_r (by omega) (by omega)).symm), kn.grow⟩
theorem en_t : Enters Tryz.prog 166 := yW Tryz.func166 (by kernel_rfl) (by kernel_rfl)
theorem en_s : Enters Tryz.prog 167 := yW Tryz.func167 (by kernel_rfl) (by kernel_rfl)
theorem en_r : Enters Tryz.prog 168 := yW Tryz.func168 (by kernel_rfl) (by kernel_rfl)
theorem en_mot (k : Int) : Enters Tryz.prog (if k = 1 ∨ k = 2 ∨ k = 3 then 166 else if k = 4 ∨ k = 5 ∨ k = 6 then 167 else 168) := by
  by_cases h : k = 1 ∨ k = 2 ∨ k = 3
  · rw [if_pos h]; exact en_t
  · by_cases h2 : k = 4 ∨ k = 5 ∨ k = 6
    · rw [if_neg h, if_pos h2]; exact en_s
    · rw [if_neg h, if_neg h2]; exact en_r
theorem kMove (k a0 a1 : Int) (w : World) : Calls Tryz.prog (if k = 1 ∨ k = 2 ∨ k = 3 then 166 else if k = 4 ∨ k = 5 ∨ k = 6 then 167 else 168) [.int .i64 (if k = 1 ∨ k = 2 ∨ k = 3 then k - 1 else if k = 4 ∨ k = 5 ∨ k = 6 then k - 4 else 0), .agg #[.int .i64 a0, .int .i64 a1]].toArray w (Rets (po (jMot k ⟨a0, a1⟩)) w) := by
  by_cases h : k = 1 ∨ k = 2 ∨ k = 3
  · rw [if_pos h, if_pos h, jMot_t h]; exact kTurn _ _ _ w
  · by_cases h2 : k = 4 ∨ k = 5 ∨ k = 6
    · rw [if_neg h, if_pos h2, if_neg h, if_pos h2, jMot_s h2]; exact kSlide _ _ _ (by omega) w
    · rw [if_neg h, if_neg h2, if_neg h, if_neg h2, jMot_r h h2]; exact kRest _ _ _ w
theorem kJoint (a0 a1 : Int) (nm : ByteArray) (kind par ox oy oz jlo jhi we spd acc tq : Int) (w : World) : Calls Tryz.prog 140 [.agg #[.string nm, .int .i64 kind, .int .i64 par, .int .i64 ox, .int .i64 oy, .int .i64 oz, .int .i64 jlo, .int .i64 jhi, .int .i64 we, .int .i64 spd, .int .i64 acc, .int .i64 tq], .agg #[.int .i64 a0, .int .i64 a1]].toArray w (Rets (po (jPose kind ⟨ox, oy, oz⟩ (⟨a0, a1⟩ : Iv))) (w)) := by
  refine yQ (n := 16) Tryz.func140 rfl rfl rfl ?_
  refine qJ ?_
  refine qZ ?_
  refine kK 2 rfl rfl rfl rfl ?_; intro b2
  refine kK 3 rfl rfl rfl rfl ?_; intro b3
  refine jZ 4 ze134 rfl rfl rfl ?_; intro b4
  refine qU ?_
  refine qQ ?_
  refine qJ ?_
  refine yX 11 mo (by kernel_rfl) ?_
  simp only [List.take_succ_cons, List.take_zero, List.drop_succ_cons, List.drop_zero]
  refine qG (qH fa87_3 rfl) rfl rfl rfl ?_
  refine qG (zQ 2 ty29 rfl rfl rfl) rfl rfl rfl ?_
  refine yG (F := v3) (zY en75 rfl (fun w _ => mPoint _ _ _  w)) rfl rfl rfl ?_; intro r7 hr7
  refine yG (F := po) (zY en157 rfl (fun w _ => pShift _ _ _ _ _ _  w)) rfl rfl rfl ?_; intro r8 hr8
  refine qG (qH fa87_1 rfl) rfl rfl rfl ?_
  refine qG (zJ 2 ty3 rfl rfl rfl) rfl rfl rfl ?_
  refine yG (F := motV 166 167 168) (zY en158 rfl (fun w _ => kMotion _  w)) rfl rfl rfl ?_; intro r11 hr11
  refine qG (opV_field1 fl197_0 rfl rfl) rfl rfl rfl ?_
  refine qG (zQ 3 ty88 rfl rfl rfl) rfl rfl rfl ?_
  refine yG (F := po) (opV_callV (en_mot _) rfl rfl rfl (fun w _ => kMove _ _ _ w)) rfl rfl rfl ?_; intro r14 hr14
  refine yG (F := po) (zY en141 rfl (fun w _ => pCompose _ _ _ _ _ _ _ _ _ _ _ _ _ _ _ _ _ _ _ _ _ _ _ _ _ _ _ _ _ _ _ _ _ _ _ _ _ _ _ _ _ _ _ _ _ _ _ _  w)) rfl rfl rfl ?_; intro r15 hr15
  refine jK ?_
  refine yV ?_
  refine zZ 4 ty134 rfl rfl rfl rfl rfl rfl rfl rfl ?_
  refine qU ?_
  refine qQ ?_
  refine yU ?_
  refine zH (rs := [.cell 4 134]) rfl (resC (yY 4 rfl rfl ty134 rfl) (resN)) (congrArg (po) (?_ : ⟨⟨⟨⟨_, _⟩, ⟨_, _⟩, ⟨_, _⟩⟩, ⟨⟨_, _⟩, ⟨_, _⟩, ⟨_, _⟩⟩, ⟨⟨_, _⟩, ⟨_, _⟩, ⟨_, _⟩⟩⟩, ⟨⟨_, _⟩, ⟨_, _⟩, ⟨_, _⟩⟩⟩ = jPose kind ⟨ox, oy, oz⟩ (⟨a0, a1⟩ : Iv)))
  have e8 : r8 = Po.shift r7 := hr8
  have e15 : r15 = Po.mul r8 r14 := hr15
  show r15 = _
  rw [e15, e8, hr7, hr14, hr11]
  rfl
end Go.Proofs.YtnlnbnjnapofmaaGreat
namespace Go.Sx
def pc (p : Po) : List Value := [.int .i64 p.r.x.x.lo, .int .i64 p.r.x.x.hi, .int .i64 p.r.x.y.lo, .int .i64 p.r.x.y.hi, .int .i64 p.r.x.z.lo, .int .i64 p.r.x.z.hi, .int .i64 p.r.y.x.lo, .int .i64 p.r.y.x.hi, .int .i64 p.r.y.y.lo, .int .i64 p.r.y.y.hi, .int .i64 p.r.y.z.lo, .int .i64 p.r.y.z.hi, .int .i64 p.r.z.x.lo, .int .i64 p.r.z.x.hi, .int .i64 p.r.z.y.lo, .int .i64 p.r.z.y.hi, .int .i64 p.r.z.z.lo, .int .i64 p.r.z.z.hi, .int .i64 p.t.x.lo, .int .i64 p.t.x.hi, .int .i64 p.t.y.lo, .int .i64 p.t.y.hi, .int .i64 p.t.z.lo, .int .i64 p.t.z.hi]
def zRow : List Value := List.replicate 24 (.int .i64 0)
def lkP (ps : List Po) (j : J) (a : Iv) : Po := if j.parent = -1 then jPose j.kind j.off a else Po.mul (ps.getD j.parent.toNat Po.rest) (jPose j.kind j.off a)
def lks (js : List J) (bx : List Iv) : Nat → List Po
  | 0 => []
  | k + 1 => match js[k]?, bx[k]? with
    | some j, some a => lks js bx k ++ [lkP (lks js bx k) j a]
    | _, _ => lks js bx k
theorem lks_succ {js : List J} {bx : List Iv} {k : Nat} {j : J} {a : Iv} (h1 : js[k]? = some j) (h2 : bx[k]? = some a) : lks js bx (k + 1) = lks js bx k ++ [lkP (lks js bx k) j a] := by
  simp only [lks, h1, h2]
def lkR (ps : List Po) (m : Nat) : List (List Value) := ps.map pc ++ List.replicate m zRow
theorem lkR_set {ps : List Po} {m : Nat} (v : List Value) : (lkR ps (m + 1)).set ps.length v = ps.map pc ++ v :: List.replicate m zRow := by
  unfold lkR
  rw [List.set_append_right _ _ (by simp)]
  simp [List.replicate_succ]
theorem lkR_set2 {ps : List Po} {m : Nat} (u v : List Value) : (ps.map pc ++ u :: List.replicate m zRow).set ps.length v = ps.map pc ++ v :: List.replicate m zRow := by
  rw [List.set_append_right _ _ (by simp)]
  simp
theorem lkR_done {ps : List Po} {m : Nat} (p : Po) : ps.map pc ++ pc p :: List.replicate m zRow = lkR (ps ++ [p]) m := by
  unfold lkR
  simp
theorem lkR_at {ps : List Po} {m i : Nat} {u : List Value} (h : i < ps.length) : (ps.map pc ++ u :: List.replicate m zRow)[i]? = some (pc (ps.getD i Po.rest)) := by
  rw [List.getElem?_append_left (by simpa using h), List.getElem?_map]
  simp [List.getD_eq_getElem?_getD, h]
theorem lkR_me {ps : List Po} {m : Nat} {u : List Value} : (ps.map pc ++ u :: List.replicate m zRow)[ps.length]? = some u := by
  rw [List.getElem?_append_right (by simp)]
  simp
end Go.Sx
namespace Go.Proofs.YtnlnbnjnapofmaaGreat
open Go.Sx
theorem app122 : appB Tryz.prog 122 134 24 192 = true := by kernel_rfl
theorem en140 : Enters Tryz.prog 140 := yW Tryz.func140 (by kernel_rfl) (by kernel_rfl)
theorem kLinks  (aj am ab : Option Addr) (cj nm cm cb n : Nat) (js : List J) (bx : List Iv) (hn : n ≤ 1000) (hjn : js.length = n) (hbn : bx.length = n) (hpar : ∀ (k : Nat) (j : J), js[k]? = some j → -1 ≤ j.parent ∧ j.parent < k) (w : World) (hS : SlcIs 12 aj (js.map jc) w) (hT : SlcIs 2 ab (bx.map ivc) w) : Calls Tryz.prog 105 [.agg #[.slice aj n cj, .slice am nm cm], .slice ab n cb].toArray w (RetsF (X := Nat) (fun _ => True) (fun b => .slice (some ⟨b, 0, none⟩) n n) (fun b => SlcIs 24 (some ⟨b, 0, none⟩) ((lks js bx n).map pc)) w) := by
  refine yQ (n := 47) Tryz.func105 rfl rfl rfl ?_
  refine qJ ?_
  refine qZ ?_
  refine kK 2 rfl rfl rfl rfl ?_; intro b2
  refine qK (qW rfl) rfl rfl rfl ?_
  refine qU ?_
  refine qQ ?_
  refine qJ ?_
  refine qZ ?_
  refine qK (qH fa26_0 rfl) rfl rfl rfl ?_
  refine qK (zJ 2 ty23 rfl rfl rfl) rfl rfl rfl ?_
  refine qK (opV_len_slice sl23 rfl) rfl rfl rfl ?_
  refine doL_make 11 (makeB_of app122 ze134) rfl (by omega) (by omega) rfl rfl ?_; intro b11
  refine qK (qW rfl) rfl rfl rfl ?_
  refine qU ?_
  refine qQ ?_
  refine qJ ?_
  refine qJ ?_
  refine qZ ?_
  refine qK (qH fa26_0 rfl) rfl rfl rfl ?_
  refine qK (zJ 2 ty23 rfl rfl rfl) rfl rfl rfl ?_
  refine qK (opV_len_slice sl23 rfl) rfl rfl rfl ?_
  refine qK (qY rfl) rfl rfl rfl ?_
  refine qU ?_
  refine qQ ?_
  refine zK ?_
  refine doC_loopK [1, 2, 5, 13, 14] [2] (α := Nat × List Po) (fun x => n - x.1) (fun x => x.1 ≤ n ∧ lks js bx x.1 = x.2 ∧ x.2.length = x.1) (fun x => ⟨w, [(11, (· = b11), RowsF b11 24 134 (lkR x.2 (n - x.1)))]⟩) (fun x => [(15, .int .i64 (x.1 : Int))]) (fun _ => []) (0, []) rfl rfl ?_ ?_ ?_ ?_ rfl ?_
  ·
    exact ⟨Nat.zero_le _, rfl, rfl⟩
  ·
    exact rfl
  ·
    repeat' first | exact trivial | exact True.intro | refine ⟨rfl, ?_⟩
  ·
    repeat' first | exact trivial | exact True.intro | refine ⟨rfl, ?_⟩
  rintro ⟨k, ps⟩ ⟨hk, hps, hlen⟩
  dsimp only at hk hps hlen ⊢
  subst hlen
  refine qJ ?_
  refine qZ ?_
  refine qK (yK rfl rfl) rfl rfl rfl ?_
  refine qU ?_
  refine qQ ?_
  refine qJ ?_
  refine jG rfl (fun hc16 => ?_) (fun hc16 => ?_)
  ·
    have h2 : ps.length < n := by have := of_decide_eq_true hc16; omega
    obtain ⟨j, hjk⟩ : ∃ j, js[ps.length]? = some j := ⟨_, List.getElem?_eq_getElem (by omega)⟩
    obtain ⟨a, hak⟩ : ∃ a, bx[ps.length]? = some a := ⟨_, List.getElem?_eq_getElem (by omega)⟩
    have hj : (js.map jc)[ps.length]? = some (jc j) := by rw [List.getElem?_map, hjk]; rfl
    have ha : (bx.map ivc)[ps.length]? = some (ivc a) := by rw [List.getElem?_map, hak]; rfl
    have hpj := hpar _ j hjk
    obtain ⟨m, hm⟩ : ∃ m, n - ps.length = m + 1 := ⟨n - ps.length - 1, by omega⟩
    rw [hm]
    have hz : (lkR ps (m + 1))[ps.length]? = some zRow := by unfold lkR; rw [List.getElem?_append_right (by simp)]; simp
    refine zU ?_
    refine qQ ?_
    refine qJ ?_
    refine zK ?_
    refine qJ ?_
    refine qZ ?_
    refine qK (qY rfl) rfl rfl rfl ?_
    refine qK (opV_indexS (e := 87) (holds_base hS) (by kernel_rfl) rfl rfl rfl hj h2) rfl rfl rfl ?_
    refine qK (opV_loadSA (vs := [.string j.name, .int .i64 j.kind, .int .i64 j.parent, .int .i64 j.off.x, .int .i64 j.off.y, .int .i64 j.off.z, .int .i64 j.lo, .int .i64 j.hi, .int .i64 j.weight, .int .i64 j.speed, .int .i64 j.accel, .int .i64 j.torque]) ps.length 0 (holds_base hS) hj ty87 rfl rfl) rfl rfl rfl ?_
    refine jZ 7 ze87 rfl rfl rfl ?_; intro b7
    refine qK (qW rfl) rfl rfl rfl ?_
    refine zZ 7 ty87 rfl rfl rfl rfl rfl rfl rfl rfl ?_
    refine qU ?_
    refine qQ ?_
    refine qJ ?_
    refine yX 8 mo (by kernel_rfl) ?_
    simp only [List.take_succ_cons, List.take_zero, List.drop_succ_cons, List.drop_zero]
    refine qG (qY rfl) rfl rfl rfl ?_
    refine qG (qY rfl) rfl rfl rfl ?_
    refine qG (zQ 7 ty87 rfl rfl rfl) rfl rfl rfl ?_
    refine qG (qY rfl) rfl rfl rfl ?_
    refine qG (qY rfl) rfl rfl rfl ?_
    refine qG (opV_indexS (e := 88) (holds_base hT) (by kernel_rfl) rfl rfl rfl ha h2) rfl rfl rfl ?_
    refine qG (opV_loadSA (vs := [.int .i64 a.lo, .int .i64 a.hi]) ps.length 0 (holds_base hT) ha ty88 rfl rfl) rfl rfl rfl ?_
    refine yG (F := po) (zY en140 rfl (fun w _ => kJoint _ _ _ _ _ _ _ _ _ _ _ _ _ _ w)) rfl rfl rfl ?_; intro r27 hr27
    refine jK ?_
    refine yV ?_
    refine qK (opV_indexS (e := 134) ((holds_r (id := 11) rfl).imp rowsF_slc) (by kernel_rfl) rfl rfl rfl hz h2) rfl rfl rfl ?_
    refine doL_storeRow (vs := pc r27) (j := ps.length) 11 ty134 rfl rfl rfl (by simp [lkR]) rfl rfl rfl rfl ?_; intro R28 hR28
    obtain rfl := Option.some.inj hR28
    rw [lkR_set]
    refine qU ?_
    refine qQ ?_
    refine qJ ?_
    refine qZ ?_
    refine qK (qH fa87_2 rfl) rfl rfl rfl ?_
    refine qK (zJ 7 ty3 rfl rfl rfl) rfl rfl rfl ?_
    refine qK (opV_neq rfl rfl) rfl rfl rfl ?_
    refine qU ?_
    refine qQ ?_
    refine jG rfl (fun hc31 => ?_) (fun hc31 => ?_)
    ·
      have hp : ¬ j.parent = -1 := by simpa using hc31
      have hpl : j.parent.toNat < ps.length := by omega
      have hpn : j.parent = ((j.parent.toNat : Nat) : Int) := by omega
      refine yX 12 mo (by kernel_rfl) ?_
      simp only [List.take_succ_cons, List.take_zero, List.drop_succ_cons, List.drop_zero]
      refine qG (qY rfl) rfl rfl rfl ?_
      refine qG (qY rfl) rfl rfl rfl ?_
      refine qG (qY rfl) rfl rfl rfl ?_
      refine qG (qH fa87_2 rfl) rfl rfl rfl ?_
      refine qG (zJ 7 ty3 rfl rfl rfl) rfl rfl rfl ?_
      refine qG (opV_indexS (e := 134) ((holds_r (id := 11) rfl).imp rowsF_slc) (by kernel_rfl) rfl rfl hpn (lkR_at hpl) (by omega)) rfl rfl rfl ?_
      refine qG (opV_loadSA (vs := pc (ps.getD j.parent.toNat Po.rest)) j.parent.toNat 0 ((holds_r (id := 11) rfl).imp rowsF_slc) (lkR_at hpl) ty134 rfl rfl) rfl rfl rfl ?_
      refine qG (qY rfl) rfl rfl rfl ?_
      refine qG (qY rfl) rfl rfl rfl ?_
      refine qG (opV_indexS (e := 134) ((holds_r (id := 11) rfl).imp rowsF_slc) (by kernel_rfl) rfl rfl rfl lkR_me h2) rfl rfl rfl ?_
      refine qG (opV_loadSA (vs := pc r27) ps.length 0 ((holds_r (id := 11) rfl).imp rowsF_slc) lkR_me ty134 rfl rfl) rfl rfl rfl ?_
      refine yG (F := po) (zY en141 rfl (fun w _ => pCompose _ _ _ _ _ _ _ _ _ _ _ _ _ _ _ _ _ _ _ _ _ _ _ _ _ _ _ _ _ _ _ _ _ _ _ _ _ _ _ _ _ _ _ _ _ _ _ _  w)) rfl rfl rfl ?_; intro r43 hr43
      refine jK ?_
      refine yV ?_
      refine qK (opV_indexS (e := 134) ((holds_r (id := 11) rfl).imp rowsF_slc) (by kernel_rfl) rfl rfl rfl lkR_me h2) rfl rfl rfl ?_
      refine doL_storeRow (vs := pc r43) (j := ps.length) 11 ty134 rfl rfl rfl (by simp [lkR]) rfl rfl rfl rfl ?_; intro R44 hR44
      obtain rfl := Option.some.inj hR44
      rw [lkR_set2]
      refine qU ?_
      refine qV ?_
      refine qQ ?_
      refine qZ ?_
      refine qK (yJ rfl rfl (inc_nat (by omega))) rfl rfl rfl ?_
      refine qK (qY rfl) rfl rfl rfl ?_
      refine qU ?_
      refine post_again (ps.length + 1, ps ++ [r43]) (by refine ⟨?_, ?_, ?_⟩ <;> dsimp only; omega; rw [lks_succ hjk hak, hps]; exact congrArg (fun x => ps ++ [x]) ((if_neg hp).trans (by rw [show r43 = Po.mul (ps.getD j.parent.toNat Po.rest) r27 from hr43, hr27]; try rfl)); simp) (by show n - (ps.length + 1) < n - ps.length; omega) (by dsimp only; rw [show n - (ps.length + 1) = m by omega, ← lkR_done]; try rfl) ?_ ?_ rfl
      repeat' first | exact trivial | exact True.intro | refine ⟨rfl, ?_⟩
    ·
      have hp : j.parent = -1 := by simpa using hc31
      refine zU ?_
      refine qV ?_
      refine qQ ?_
      refine qZ ?_
      refine qK (yJ rfl rfl (inc_nat (by omega))) rfl rfl rfl ?_
      refine qK (qY rfl) rfl rfl rfl ?_
      refine qU ?_
      refine post_again (ps.length + 1, ps ++ [r27]) (by refine ⟨?_, ?_, ?_⟩ <;> dsimp only; omega; rw [lks_succ hjk hak, hps]; exact congrArg (fun x => ps ++ [x]) ((if_pos hp).trans hr27.symm); simp) (by show n - (ps.length + 1) < n - ps.length; omega) (by dsimp only; rw [show n - (ps.length + 1) = m by omega, ← lkR_done]; try rfl) ?_ ?_ rfl
      repeat' first | exact trivial | exact True.intro | refine ⟨rfl, ?_⟩
  ·
    have h2 : ps.length = n := by have := of_decide_eq_false hc16; omega
    refine kH ?_
    refine zX ?_
    refine zX ?_
    refine yH ?_
    refine qQ ?_
    refine qJ ?_
    refine qZ ?_
    refine qK (qY rfl) rfl rfl rfl ?_
    refine qK (qW rfl) rfl rfl rfl ?_
    refine qU ?_
    refine qQ ?_
    refine yU ?_
    refine post_ret (rs := [.tmp 4]) rfl (resC (jU rfl) (resN)) rfl ?_
    intro w2 k2
    obtain ⟨_, q2, q3⟩ := k2.facts _ List.mem_cons_self
    refine ⟨b11, trivial, rfl, k2.grow, ownD _, slc_dep _ _ _, fun z hz => ?_, ?_⟩
    · obtain ⟨ad, h1, h2⟩ := hz
      cases h1
      subst h2
      exact ⟨(q2 _ rfl).1, (q2 _ rfl).2.1⟩
    · have q4 := rowsF_slc _ q3
      rw [← h2, hps]
      simpa [lkR, h2] using q4
end Go.Proofs.YtnlnbnjnapofmaaGreat
namespace Go.Proofs.YtnlnbnjnapofmaaGreat
open Go.Sx
theorem en104 : Enters Tryz.prog 104 := yW Tryz.func104 (by kernel_rfl) (by kernel_rfl)
theorem en67 : Enters Tryz.prog 67 := yW Tryz.func67 (by kernel_rfl) (by kernel_rfl)
theorem en105 : Enters Tryz.prog 105 := yW Tryz.func105 (by kernel_rfl) (by kernel_rfl)
theorem kLinksAll  (aj am ab : Option Addr) (cj nm cm cb n : Nat) (js : List J) (l : List Ms) (bx : List Iv) (hn : 1 ≤ n ∧ n ≤ 10) (hm : nm ≤ 32) (hjn : js.length = n) (hln : l.length = nm) (hbn : bx.length = n) (hJ : ∀ (i : Nat) (j : J), js[i]? = some j → JOK js i j) (hv : ∀ m ∈ l, MB n m) (hvb : ∀ a ∈ bx, Iv.valid a = true) (w : World) (hS : SlcIs 12 aj (js.map jc) w) (hM : SlcIs 5 am (l.map mc) w) (hT : SlcIs 2 ab (bx.map ivc) w) : Calls Tryz.prog 73 [.agg #[.slice aj n cj, .slice am nm cm], .slice ab n cb].toArray w (RetsF (X := Nat) (fun _ => True) (fun b => .slice (some ⟨b, 0, none⟩) n n) (fun b => SlcIs 24 (some ⟨b, 0, none⟩) ((lks js bx n).map pc)) w) := by
  refine yQ (n := 17) Tryz.func73 rfl rfl rfl ?_
  refine qJ ?_
  refine qZ ?_
  refine kK 2 rfl rfl rfl rfl ?_; intro b2
  refine qK (qW rfl) rfl rfl rfl ?_
  refine qU ?_
  refine qQ ?_
  refine qJ ?_
  refine qJ ?_
  refine qZ ?_
  refine qK (zQ 2 ty26 rfl rfl rfl) rfl rfl rfl ?_
  refine qK (qY rfl) rfl rfl rfl ?_
  refine kY (F := vB) (zY en104 rfl (fun w' k => kIsBox aj am ab cj nm cm cb n bx (by omega) hbn hvb w' (slc_grow hT k.grow))) rfl rfl rfl ?_; intro r7 hr7
  refine qK (opV_not rfl) rfl rfl rfl ?_
  refine qK (qY rfl) rfl rfl rfl ?_
  refine doL_false 9 rfl (by rw [hr7]; rfl) ?_
  refine qK (zQ 2 ty26 rfl rfl rfl) rfl rfl rfl ?_
  refine kY (F := vI) (zY en67 rfl (fun w' k => cCheck aj am cj nm cm n js l hn hm hjn hln hJ hv w' (slc_grow hS k.grow) (slc_grow hM k.grow))) rfl rfl rfl ?_; intro r11 hr11
  refine qK (opV_neq rfl rfl) rfl rfl rfl ?_
  refine qK (kV rfl rfl rfl rfl) rfl rfl rfl ?_
  refine qU ?_
  refine qQ ?_
  refine jW rfl (by rw [hr11]; rfl) ?_
  refine zU ?_
  refine qQ ?_
  refine qJ ?_
  refine qZ ?_
  refine qK (zQ 2 ty26 rfl rfl rfl) rfl rfl rfl ?_
  refine qK (qY rfl) rfl rfl rfl ?_
  refine doL_told 16 en105 rfl (fun w' k => kLinks aj am ab cj nm cm cb n js bx (by omega) hjn hbn (fun i j hj => by obtain ⟨_, _, _, _, _, _, _, h, _⟩ := hJ i j hj; exact h) w' (slc_grow hS k.grow) (slc_grow hT k.grow)) rfl rfl ?_; intro x16 Dx16 _
  refine qK (qW rfl) rfl rfl rfl ?_
  refine qU ?_
  refine qQ ?_
  refine yU ?_
  refine post_ret (rs := [.tmp 4]) rfl (resC (jU rfl) (resN)) rfl ?_
  intro w2 k2
  obtain ⟨p1, p2, p3⟩ := k2.facts _ List.mem_cons_self
  exact ⟨x16, trivial, rfl, k2.grow, _, p1, fun z hz => ⟨(p2 z hz).1, (p2 z hz).2.1⟩, p3⟩
end Go.Proofs.YtnlnbnjnapofmaaGreat
namespace Go.Proofs.YtnlnbnjnapofmaaGreat
open Go.Sx
theorem en36 : Enters Tryz.prog 36 := yW Tryz.func36 (by kernel_rfl) (by kernel_rfl)
end Go.Proofs.YtnlnbnjnapofmaaGreat
namespace Go.Proofs.YtnlnbnjnapofmaaGreat
open Go.Sx Go.RowKit
theorem madeLinks {l : List Int} {aj am ab : Option Addr} {cj cm cb : Nat} {bx : List Iv} (w : World) (hb : bx.length = nJ l 0) (hv : ∀ a ∈ bx, Iv.valid a = true) (hS : SlcIs 12 aj ((jsOf l 0 (nJ l 0)).1.map jc) w) (hM : SlcIs 5 am ((msOf l 0 (nM l 0)).map mc) w) (hT : SlcIs 2 ab (bx.map ivc) w) :
    Calls Tryz.prog 73 [.agg #[.slice aj (nJ l 0) cj, .slice am (nM l 0) cm], .slice ab (nJ l 0) cb].toArray w (RetsF (X := Nat) (fun _ => True) (fun b => .slice (some ⟨b, 0, none⟩) (nJ l 0) (nJ l 0)) (fun b => SlcIs 24 (some ⟨b, 0, none⟩) ((lks (jsOf l 0 (nJ l 0)).1 bx (nJ l 0)).map pc)) w) := by
  have hn := nJ_b l 0
  have hm := nM_b l 0
  exact kLinksAll aj am ab cj (nM l 0) cm cb (nJ l 0) (jsOf l 0 (nJ l 0)).1 (msOf l 0 (nM l 0)) bx (by omega) (by omega) (jsOf_len _ _ _) (msOf_len _ _ _) hb (fun i j h => made_JOK l 0 (nJ l 0) hn.2.1 i j h) (fun m h => msOf_get l 0 _ m h) hv w hS hM hT
end Go.Proofs.YtnlnbnjnapofmaaGreat
namespace Go.Proofs.YtnlnbnjnapofmaaGreat
open Go.Sx
theorem en35 : Enters Tryz.prog 35 := yW Tryz.func35 (by kernel_rfl) (by kernel_rfl)
theorem mkRobotT (lv : Value) (l : List Int) (w : World) (hl : IntsAt w w.heap.size lv l) : Calls Tryz.prog 10 [lv].toArray w (RetsF (X := (Option Addr × Nat) × (Option Addr × Nat)) (fun x => nJ l 0 ≤ x.1.2 ∧ nM l 0 ≤ x.2.2) (fun x => .agg #[.slice x.1.1 (nJ l 0) x.1.2, .slice x.2.1 (nM l 0) x.2.2]) (fun x w => SlcIs 12 x.1.1 ((jsOf l 0 (nJ l 0)).1.map jc) w ∧ SlcIs 5 x.2.1 ((msOf l 0 (nM l 0)).map mc) w) w) := by
  refine yQ (n := 6) Tryz.func10 rfl rfl rfl ?_
  refine qJ ?_
  refine qZ ?_
  refine jZ 2 ze26 rfl rfl rfl ?_; intro b2
  refine qU ?_
  refine qQ ?_
  refine qJ ?_
  refine qZ ?_
  refine qK (qY rfl) rfl rfl rfl ?_
  refine doL_callNew 4 en36 rfl (fun w' k => mFrom w' (intsAt_grow hl k.grow (Nat.le_refl _))) rfl rfl ?_; intro b4
  refine doL_toldB 5 4 hl rfl en35 rfl (fun w' h => mkRobot   w' h) rfl rfl rfl ?_; intro x5 Dx5 _
  rename_i hP5
  obtain ⟨⟨aj, cj⟩, am, cm⟩ := x5
  dsimp only
  refine zZ 2 ty26 rfl rfl rfl rfl rfl rfl rfl rfl ?_
  refine qU ?_
  refine qQ ?_
  refine yU ?_
  refine post_ret (rs := [.cell 2 26]) rfl (resC (yY 2 rfl rfl ty26 rfl) (resN)) rfl ?_
  intro w2 k2
  obtain ⟨p1, p2, p3⟩ := k2.facts _ List.mem_cons_self
  exact ⟨((aj, cj), (am, cm)), hP5, rfl, k2.grow, _, p1, fun z hz => ⟨(p2 z hz).1, (p2 z hz).2.1⟩, p3⟩
end Go.Proofs.YtnlnbnjnapofmaaGreat
namespace Go.Proofs.YtnlnbnjnapofmaaGreat
open Go.Rx Rt Go.Sx Go.RowKit
def jp (j : J) : List PV := [.s j.name, .n .i64 j.kind, .n .i64 j.parent, .n .i64 j.off.x, .n .i64 j.off.y, .n .i64 j.off.z, .n .i64 j.lo, .n .i64 j.hi, .n .i64 j.weight, .n .i64 j.speed, .n .i64 j.accel, .n .i64 j.torque]
def mp (m : Ms) : List PV := [.n .i64 m.link, .n .i64 m.mass, .n .i64 m.p.x, .n .i64 m.p.y, .n .i64 m.p.z]
def cp (c : Cn) : List PV := [.n .i64 c.kind, .n .i64 c.link, .n .i64 c.p.x, .n .i64 c.p.y, .n .i64 c.p.z, .n .i64 c.n.x, .n .i64 c.n.y, .n .i64 c.n.z, .n .i64 c.lo, .n .i64 c.hi]
theorem valRows_map {α : Type} {f : α → List PV} {g : α → List Value} (h : ∀ x, (f x).map PV.val1 = g x) (l : List α) : valRows (l.map f) = l.map g := by
  unfold valRows
  rw [List.map_map]
  exact List.map_congr_left fun x _ => h x
theorem flat_map {α : Type} {f : α → List PV} {sz : Nat} (h : ∀ x, (Nat.beq (f x).length sz && (f x).all PV.flat1) = true) (l : List α) : flatRows sz (l.map f) = true := by
  unfold flatRows
  rw [List.all_map, List.all_eq_true]
  exact fun x _ => h x
theorem rp_told {α : Type} {f : α → List PV} {g : α → List Value} {sz k c : Nat} {l : List α} {a : Option Addr} {F D : Nat → Prop} {G : World → Prop} {w : World} (hv : ∀ x, (f x).map PV.val1 = g x) (hf : ∀ x, (Nat.beq (f x).length sz && (f x).all PV.flat1) = true) (hk : l.length = k) (hc : k ≤ c) (h0 : 0 < sz)
    (hd : Depends D G) (hG : G w) (hi : ∀ w, G w → SlcIs sz a (l.map g) w) (hF : ∀ k, D k → F k) : RP F w (.l (l.map f)) (.slice a k c) := by
  have := rp_of_slc (F := F) (c := c) (flat_map hf l) (by rw [List.length_map, hk]; exact hc) (by rw [valRows_map hv]; exact hi w hG) (fun b off ha hne => hF b (dep_mem hd hG hi h0 (fun e => hne (by cases l with | nil => rfl | cons x xs => cases e)) b off ha))
  rw [List.length_map, hk] at this
  exact this
theorem slc_told {α : Type} {f : α → List PV} {g : α → List Value} {sz k : Nat} {l : List α} {F : Nat → Prop} {w : World} {v : Value} (hv : ∀ x, (f x).map PV.val1 = g x) (hf : ∀ x, (Nat.beq (f x).length sz && (f x).all PV.flat1) = true) (hk : l.length = k) (hF : ∀ k, F k → k < w.heap.size) (h : RP F w (.l (l.map f)) v) :
    ∃ a c, v = .slice a k c ∧ k ≤ c ∧ SlcIs sz a (l.map g) w := by
  obtain ⟨a, c, rfl, hc, hS, _⟩ := slc_of_rp (flat_map hf l) hF h
  rw [List.length_map, hk] at hc
  exact ⟨a, c, by rw [List.length_map, hk], hc, by rw [valRows_map hv] at hS; exact hS⟩
def robP (l : List Int) : PV := .a [.l ((jsOf l 0 (nJ l 0)).1.map jp), .l ((msOf l 0 (nM l 0)).map mp)]
theorem snd_robot {l : List Int} (hl : l.length ≤ 9223372036854775807) : SndA1 Tryz.prog 10 [intsP l] (.v (robP l)) := by
  refine snd_told (X := (Option Addr × Nat) × (Option Addr × Nat)) (Φ := fun x => nJ l 0 ≤ x.1.2 ∧ nM l 0 ≤ x.2.2) (V := fun x => .agg #[.slice x.1.1 (nJ l 0) x.1.2, .slice x.2.1 (nM l 0) x.2.2]) (G := fun x w => SlcIs 12 x.1.1 ((jsOf l 0 (nJ l 0)).1.map jc) w ∧ SlcIs 5 x.2.1 ((msOf l 0 (nM l 0)).map mc) w) (yW Tryz.func10 (by kernel_rfl) (by kernel_rfl)) (fun w F vals hF hal => ?_) (fun x w D F hP hG hd hF => ?_)
  · obtain ⟨v, vs, rfl, h1, h2⟩ := al_uncons hal
    obtain rfl := al_unnil h2
    exact mkRobotT v l w (ints_of_rp hl hF h1)
  · have h := al_cons (rp_told (f := jp) (g := jc) (sz := 12) (fun _ => rfl) (fun _ => rfl) (jsOf_len l 0 _) hP.1 (by decide) hd hG (fun _ h => h.1) hF) (al_cons (rp_told (f := mp) (g := mc) (sz := 5) (fun _ => rfl) (fun _ => rfl) (msOf_len l 0 _) hP.2 (by decide) hd hG (fun _ h => h.2) hF) al_nil)
    exact .a _ _ h.1 (fun v hv => by rcases List.mem_cons.1 hv with rfl | hv; rfl; rcases List.mem_cons.1 hv with rfl | hv; rfl; cases hv) h.2
theorem rob_open {l : List Int} {F : Nat → Prop} {w : World} {v : Value} (hF : ∀ k, F k → k < w.heap.size) (h : RP F w (robP l) v) : ∃ aj cj am cm, v = .agg #[.slice aj (nJ l 0) cj, .slice am (nM l 0) cm] ∧ SlcIs 12 aj ((jsOf l 0 (nJ l 0)).1.map jc) w ∧ SlcIs 5 am ((msOf l 0 (nM l 0)).map mc) w := by
  obtain ⟨vs, rfl, ha⟩ := rp_parts h
  obtain ⟨v1, vs, rfl, h1, ha⟩ := al_uncons ha
  obtain ⟨v2, vs, rfl, h2, ha⟩ := al_uncons ha
  obtain rfl := al_unnil ha
  obtain ⟨aj, cj, rfl, _, hj⟩ := slc_told (sz := 12) (g := jc) (fun _ => rfl) (fun _ => rfl) (jsOf_len l 0 _) hF h1
  obtain ⟨am, cm, rfl, _, hm⟩ := slc_told (sz := 5) (g := mc) (fun _ => rfl) (fun _ => rfl) (msOf_len l 0 _) hF h2
  exact ⟨aj, cj, am, cm, rfl, hj, hm⟩
theorem snd_check (l : List Int) : SndA1 Tryz.prog 67 [robP l] (.v (.n .i64 0)) := by
  refine ⟨(yW Tryz.func67 (by kernel_rfl) (by kernel_rfl)), fun w F vals hF hal => ?_⟩
  obtain ⟨v1, vs, rfl, h1, hal⟩ := al_uncons hal
  obtain rfl := al_unnil hal
  obtain ⟨aj, cj, am, cm, rfl, hj, hm⟩ := rob_open hF h1
  have hb := nJ_b l 0
  have hm' := nM_b l 0
  refine (cCheck aj am cj (nM l 0) cm (nJ l 0) _ _ (by omega) (by omega) (jsOf_len l 0 _) (msOf_len l 0 _) (fun i j h => made_JOK l 0 (nJ l 0) hb.2.1 i j h) (fun m h => msOf_get l 0 _ m h) w hj hm).mono fun e w' ⟨he, hg⟩ => ?_
  exact ⟨_, F, he, hg, fun k hk => hk, fun k hk => .inl hk, .n _ _⟩
def lksOf (l : List Int) (bx : List Iv) : List Po := lks (jsOf l 0 (nJ l 0)).1 bx (nJ l 0)
theorem lks_len {js : List J} {bx : List Iv} : ∀ k, k ≤ js.length → k ≤ bx.length → (lks js bx k).length = k
  | 0, _, _ => rfl
  | k + 1, h1, h2 => by
    have e1 : js[k]? = some (js[k]'(by omega)) := List.getElem?_eq_getElem (by omega)
    have e2 : bx[k]? = some (bx[k]'(by omega)) := List.getElem?_eq_getElem (by omega)
    simp only [lks, e1, e2, List.length_append, List.length_cons, List.length_nil]
    rw [lks_len k (by omega) (by omega)]
theorem snd_links {l : List Int} {bx : List Iv} (hb : bx.length = nJ l 0) (hv : ∀ a ∈ bx, Iv.valid a = true) : SndA1 Tryz.prog 73 [robP l, .l (bx.map ivC)] (.v (.l ((lksOf l bx).map poC))) := by
  refine snd_told (X := Nat) (Φ := fun _ => True) (V := fun b => .slice (some ⟨b, 0, none⟩) (nJ l 0) (nJ l 0)) (G := fun b => SlcIs 24 (some ⟨b, 0, none⟩) ((lksOf l bx).map pc)) (yW Tryz.func73 (by kernel_rfl) (by kernel_rfl)) (fun w F vals hF hal => ?_) (fun x w D F hP hG hd hF => rp_told (g := pc) (sz := 24) (fun _ => rfl) (fun _ => rfl) (lks_len _ (by rw [jsOf_len]; exact Nat.le_refl _) (by rw [hb]; exact Nat.le_refl _)) (Nat.le_refl _) (by decide) hd hG (fun _ h => h) hF)
  obtain ⟨v1, vs, rfl, h1, hal⟩ := al_uncons hal
  obtain ⟨v2, vs, rfl, h2, hal⟩ := al_uncons hal
  obtain rfl := al_unnil hal
  obtain ⟨aj, cj, am, cm, rfl, hj, hm'⟩ := rob_open hF h1
  obtain ⟨ab, cb, rfl, _, hS⟩ := slc_told (sz := 2) (g := ivc) (fun _ => rfl) (fun _ => rfl) hb hF h2
  exact madeLinks w hb hv hj hm' hS
end Go.Proofs.YtnlnbnjnapofmaaGreat
namespace Go.Proofs.YtnlnbnjnapofmaaGreat.Ov
open Go.Rx Rt Go.Sx Go.RowKit
open Od
noncomputable def gEq (a b : PV) : Bool := @decide (a = b) (Classical.propDecidable _)
theorem uY (a : PV) : gEq a a = true := @decide_eq_true _ (Classical.propDecidable _) rfl
theorem gEq_eq {a b : PV} (h : gEq a b = true) : a = b := @of_decide_eq_true _ (Classical.propDecidable _) h
noncomputable def o_chk (R : PV) : List PV → Option (Bool × Ret) := fun ps => match ps with
  | [rb] => some (gEq rb R, .v (.n .i64 0))
  | _ => none
theorem ok_chk {R : PV} (h : SndA1 Tryz.prog 67 [R] (.v (.n .i64 0))) : OneOk Tryz.prog 67 (o_chk R) := by
  intro ps r hh
  unfold o_chk at hh
  split at hh
  · simp only [Option.some.injEq, Prod.mk.injEq] at hh
    obtain ⟨hg, rfl⟩ := hh
    obtain rfl := gEq_eq hg
    exact h
  · cases hh
def bxOk (j : J) (b : Iv) : Prop := -2147483648 ≤ b.lo ∧ b.lo ≤ b.hi ∧ b.hi ≤ 2147483648 ∧ -2147483648 ≤ j.lo ∧ j.lo ≤ j.hi ∧ j.hi ≤ 2147483648 ∧ j.lo ≤ b.lo ∧ b.hi ≤ j.hi
def rob1 (j0 : J) (mr : List (List PV)) : PV := .a [.l [jp j0], .l mr]
def box1 (b0 : Iv) : PV := .l [ivC b0]
set_option maxRecDepth 100000 in
theorem tr_ins1 (j0 : J) (mr : List (List PV)) (b0 : Iv) : runK T (OrL.k [(67, o_chk (rob1 j0 mr))]) 60 41 [(rob1 j0 mr), (box1 b0)] =
  bif (gEq (rob1 j0 mr) (rob1 j0 mr)) then (bif (decide ((-2147483648) ≤ b0.lo)) then (bif (decide (b0.lo ≤ b0.hi)) then (bif (decide (b0.hi ≤ 2147483648)) then (bif (decide ((-2147483648) ≤ j0.lo)) then (bif (decide (j0.lo ≤ j0.hi)) then (bif (decide (j0.hi ≤ 2147483648)) then (bif (decide (j0.lo ≤ b0.lo)) then (bif (decide (b0.hi ≤ j0.hi)) then some (.v (.b true), [])
                  else some (.v (.b false), []))
                else some (.v (.b false), []))
              else some (.v (.b false), []))
            else some (.v (.b false), []))
          else some (.v (.b false), []))
        else some (.v (.b false), []))
      else some (.v (.b false), []))
    else some (.v (.b false), []))
  else none := by kernel_rfl
theorem sp_ins1 {j0 : J} {mr : List (List PV)} {b0 : Iv} (h0 : bxOk j0 b0) : runK T (OrL.k [(67, o_chk (rob1 j0 mr))]) 60 41 [(rob1 j0 mr), (box1 b0)] = some (.v (.b true), []) := by
  obtain ⟨q00, q01, q02, q03, q04, q05, q06, q07⟩ := h0
  rw [tr_ins1, uY, cond_true, show (decide ((-2147483648) ≤ b0.lo)) = true from decide_eq_true (by omega), cond_true, show (decide (b0.lo ≤ b0.hi)) = true from decide_eq_true (by omega), cond_true, show (decide (b0.hi ≤ 2147483648)) = true from decide_eq_true (by omega), cond_true, show (decide ((-2147483648) ≤ j0.lo)) = true from decide_eq_true (by omega), cond_true, show (decide (j0.lo ≤ j0.hi)) = true from decide_eq_true (by omega), cond_true, show (decide (j0.hi ≤ 2147483648)) = true from decide_eq_true (by omega), cond_true, show (decide (j0.lo ≤ b0.lo)) = true from decide_eq_true (by omega), cond_true, show (decide (b0.hi ≤ j0.hi)) = true from decide_eq_true (by omega), cond_true]
theorem snd_ins1 {j0 : J} {mr : List (List PV)} {b0 : Iv} (h0 : bxOk j0 b0) (hc : SndA1 Tryz.prog 67 [(rob1 j0 mr)] (.v (.n .i64 0))) : SndA1 Tryz.prog 41 [(rob1 j0 mr), (box1 b0)] (.v (.b true)) := jX tabOk mixed (OrL.ok (l := [(67, o_chk (rob1 j0 mr))]) ⟨ok_chk hc, trivial⟩) (sp_ins1 h0)
def rob2 (j0 j1 : J) (mr : List (List PV)) : PV := .a [.l [jp j0, jp j1], .l mr]
def box2 (b0 b1 : Iv) : PV := .l [ivC b0, ivC b1]
set_option maxRecDepth 100000 in
theorem tr_ins2 (j0 j1 : J) (mr : List (List PV)) (b0 b1 : Iv) : runK T (OrL.k [(67, o_chk (rob2 j0 j1 mr))]) 60 41 [(rob2 j0 j1 mr), (box2 b0 b1)] =
  bif (gEq (rob2 j0 j1 mr) (rob2 j0 j1 mr)) then (bif (decide ((-2147483648) ≤ b0.lo)) then (bif (decide (b0.lo ≤ b0.hi)) then (bif (decide (b0.hi ≤ 2147483648)) then (bif (decide ((-2147483648) ≤ j0.lo)) then (bif (decide (j0.lo ≤ j0.hi)) then (bif (decide (j0.hi ≤ 2147483648)) then (bif (decide (j0.lo ≤ b0.lo)) then (bif (decide (b0.hi ≤ j0.hi)) then (bif (decide ((-2147483648) ≤ b1.lo)) then (bif (decide (b1.lo ≤ b1.hi)) then (bif (decide (b1.hi ≤ 2147483648)) then (bif (decide ((-2147483648) ≤ j1.lo)) then (bif (decide (j1.lo ≤ j1.hi)) then (bif (decide (j1.hi ≤ 2147483648)) then (bif (decide (j1.lo ≤ b1.lo)) then (bif (decide (b1.hi ≤ j1.hi)) then some (.v (.b true), [])
                                  else some (.v (.b false), []))
                                else some (.v (.b false), []))
                              else some (.v (.b false), []))
                            else some (.v (.b false), []))
                          else some (.v (.b false), []))
                        else some (.v (.b false), []))
                      else some (.v (.b false), []))
                    else some (.v (.b false), []))
                  else some (.v (.b false), []))
                else some (.v (.b false), []))
              else some (.v (.b false), []))
            else some (.v (.b false), []))
          else some (.v (.b false), []))
        else some (.v (.b false), []))
      else some (.v (.b false), []))
    else some (.v (.b false), []))
  else none := by kernel_rfl
theorem sp_ins2 {j0 j1 : J} {mr : List (List PV)} {b0 b1 : Iv} (h0 : bxOk j0 b0) (h1 : bxOk j1 b1) : runK T (OrL.k [(67, o_chk (rob2 j0 j1 mr))]) 60 41 [(rob2 j0 j1 mr), (box2 b0 b1)] = some (.v (.b true), []) := by
  obtain ⟨q00, q01, q02, q03, q04, q05, q06, q07⟩ := h0
  obtain ⟨q10, q11, q12, q13, q14, q15, q16, q17⟩ := h1
  rw [tr_ins2, uY, cond_true, show (decide ((-2147483648) ≤ b0.lo)) = true from decide_eq_true (by omega), cond_true, show (decide (b0.lo ≤ b0.hi)) = true from decide_eq_true (by omega), cond_true, show (decide (b0.hi ≤ 2147483648)) = true from decide_eq_true (by omega), cond_true, show (decide ((-2147483648) ≤ j0.lo)) = true from decide_eq_true (by omega), cond_true, show (decide (j0.lo ≤ j0.hi)) = true from decide_eq_true (by omega), cond_true, show (decide (j0.hi ≤ 2147483648)) = true from decide_eq_true (by omega), cond_true, show (decide (j0.lo ≤ b0.lo)) = true from decide_eq_true (by omega), cond_true, show (decide (b0.hi ≤ j0.hi)) = true from decide_eq_true (by omega), cond_true, show (decide ((-2147483648) ≤ b1.lo)) = true from decide_eq_true (by omega), cond_true, show (decide (b1.lo ≤ b1.hi)) = true from decide_eq_true (by omega), cond_true, show (decide (b1.hi ≤ 2147483648)) = true from decide_eq_true (by omega), cond_true, show (decide ((-2147483648) ≤ j1.lo)) = true from decide_eq_true (by omega), cond_true, show (decide (j1.lo ≤ j1.hi)) = true from decide_eq_true (by omega), cond_true, show (decide (j1.hi ≤ 2147483648)) = true from decide_eq_true (by omega), cond_true, show (decide (j1.lo ≤ b1.lo)) = true from decide_eq_true (by omega), cond_true, show (decide (b1.hi ≤ j1.hi)) = true from decide_eq_true (by omega), cond_true]
theorem snd_ins2 {j0 j1 : J} {mr : List (List PV)} {b0 b1 : Iv} (h0 : bxOk j0 b0) (h1 : bxOk j1 b1) (hc : SndA1 Tryz.prog 67 [(rob2 j0 j1 mr)] (.v (.n .i64 0))) : SndA1 Tryz.prog 41 [(rob2 j0 j1 mr), (box2 b0 b1)] (.v (.b true)) := jX tabOk mixed (OrL.ok (l := [(67, o_chk (rob2 j0 j1 mr))]) ⟨ok_chk hc, trivial⟩) (sp_ins2 h0 h1)
def rob3 (j0 j1 j2 : J) (mr : List (List PV)) : PV := .a [.l [jp j0, jp j1, jp j2], .l mr]
def box3 (b0 b1 b2 : Iv) : PV := .l [ivC b0, ivC b1, ivC b2]
set_option maxRecDepth 100000 in
theorem tr_ins3 (j0 j1 j2 : J) (mr : List (List PV)) (b0 b1 b2 : Iv) : runK T (OrL.k [(67, o_chk (rob3 j0 j1 j2 mr))]) 60 41 [(rob3 j0 j1 j2 mr), (box3 b0 b1 b2)] =
  bif (gEq (rob3 j0 j1 j2 mr) (rob3 j0 j1 j2 mr)) then (bif (decide ((-2147483648) ≤ b0.lo)) then (bif (decide (b0.lo ≤ b0.hi)) then (bif (decide (b0.hi ≤ 2147483648)) then (bif (decide ((-2147483648) ≤ j0.lo)) then (bif (decide (j0.lo ≤ j0.hi)) then (bif (decide (j0.hi ≤ 2147483648)) then (bif (decide (j0.lo ≤ b0.lo)) then (bif (decide (b0.hi ≤ j0.hi)) then (bif (decide ((-2147483648) ≤ b1.lo)) then (bif (decide (b1.lo ≤ b1.hi)) then (bif (decide (b1.hi ≤ 2147483648)) then (bif (decide ((-2147483648) ≤ j1.lo)) then (bif (decide (j1.lo ≤ j1.hi)) then (bif (decide (j1.hi ≤ 2147483648)) then (bif (decide (j1.lo ≤ b1.lo)) then (bif (decide (b1.hi ≤ j1.hi)) then (bif (decide ((-2147483648) ≤ b2.lo)) then (bif (decide (b2.lo ≤ b2.hi)) then (bif (decide (b2.hi ≤ 2147483648)) then (bif (decide ((-2147483648) ≤ j2.lo)) then (bif (decide (j2.lo ≤ j2.hi)) then (bif (decide (j2.hi ≤ 2147483648)) then (bif (decide (j2.lo ≤ b2.lo)) then (bif (decide (b2.hi ≤ j2.hi)) then some (.v (.b true), [])
                                                  else some (.v (.b false), []))
                                                else some (.v (.b false), []))
                                              else some (.v (.b false), []))
                                            else some (.v (.b false), []))
                                          else some (.v (.b false), []))
                                        else some (.v (.b false), []))
                                      else some (.v (.b false), []))
                                    else some (.v (.b false), []))
                                  else some (.v (.b false), []))
                                else some (.v (.b false), []))
                              else some (.v (.b false), []))
                            else some (.v (.b false), []))
                          else some (.v (.b false), []))
                        else some (.v (.b false), []))
                      else some (.v (.b false), []))
                    else some (.v (.b false), []))
                  else some (.v (.b false), []))
                else some (.v (.b false), []))
              else some (.v (.b false), []))
            else some (.v (.b false), []))
          else some (.v (.b false), []))
        else some (.v (.b false), []))
      else some (.v (.b false), []))
    else some (.v (.b false), []))
  else none := by kernel_rfl
theorem sp_ins3 {j0 j1 j2 : J} {mr : List (List PV)} {b0 b1 b2 : Iv} (h0 : bxOk j0 b0) (h1 : bxOk j1 b1) (h2 : bxOk j2 b2) : runK T (OrL.k [(67, o_chk (rob3 j0 j1 j2 mr))]) 60 41 [(rob3 j0 j1 j2 mr), (box3 b0 b1 b2)] = some (.v (.b true), []) := by
  obtain ⟨q00, q01, q02, q03, q04, q05, q06, q07⟩ := h0
  obtain ⟨q10, q11, q12, q13, q14, q15, q16, q17⟩ := h1
  obtain ⟨q20, q21, q22, q23, q24, q25, q26, q27⟩ := h2
  rw [tr_ins3, uY, cond_true, show (decide ((-2147483648) ≤ b0.lo)) = true from decide_eq_true (by omega), cond_true, show (decide (b0.lo ≤ b0.hi)) = true from decide_eq_true (by omega), cond_true, show (decide (b0.hi ≤ 2147483648)) = true from decide_eq_true (by omega), cond_true, show (decide ((-2147483648) ≤ j0.lo)) = true from decide_eq_true (by omega), cond_true, show (decide (j0.lo ≤ j0.hi)) = true from decide_eq_true (by omega), cond_true, show (decide (j0.hi ≤ 2147483648)) = true from decide_eq_true (by omega), cond_true, show (decide (j0.lo ≤ b0.lo)) = true from decide_eq_true (by omega), cond_true, show (decide (b0.hi ≤ j0.hi)) = true from decide_eq_true (by omega), cond_true, show (decide ((-2147483648) ≤ b1.lo)) = true from decide_eq_true (by omega), cond_true, show (decide (b1.lo ≤ b1.hi)) = true from decide_eq_true (by omega), cond_true, show (decide (b1.hi ≤ 2147483648)) = true from decide_eq_true (by omega), cond_true, show (decide ((-2147483648) ≤ j1.lo)) = true from decide_eq_true (by omega), cond_true, show (decide (j1.lo ≤ j1.hi)) = true from decide_eq_true (by omega), cond_true, show (decide (j1.hi ≤ 2147483648)) = true from decide_eq_true (by omega), cond_true, show (decide (j1.lo ≤ b1.lo)) = true from decide_eq_true (by omega), cond_true, show (decide (b1.hi ≤ j1.hi)) = true from decide_eq_true (by omega), cond_true, show (decide ((-2147483648) ≤ b2.lo)) = true from decide_eq_true (by omega), cond_true, show (decide (b2.lo ≤ b2.hi)) = true from decide_eq_true (by omega), cond_true, show (decide (b2.hi ≤ 2147483648)) = true from decide_eq_true (by omega), cond_true, show (decide ((-2147483648) ≤ j2.lo)) = true from decide_eq_true (by omega), cond_true, show (decide (j2.lo ≤ j2.hi)) = true from decide_eq_true (by omega), cond_true, show (decide (j2.hi ≤ 2147483648)) = true from decide_eq_true (by omega), cond_true, show (decide (j2.lo ≤ b2.lo)) = true from decide_eq_true (by omega), cond_true, show (decide (b2.hi ≤ j2.hi)) = true from decide_eq_true (by omega), cond_true]
theorem snd_ins3 {j0 j1 j2 : J} {mr : List (List PV)} {b0 b1 b2 : Iv} (h0 : bxOk j0 b0) (h1 : bxOk j1 b1) (h2 : bxOk j2 b2) (hc : SndA1 Tryz.prog 67 [(rob3 j0 j1 j2 mr)] (.v (.n .i64 0))) : SndA1 Tryz.prog 41 [(rob3 j0 j1 j2 mr), (box3 b0 b1 b2)] (.v (.b true)) := jX tabOk mixed (OrL.ok (l := [(67, o_chk (rob3 j0 j1 j2 mr))]) ⟨ok_chk hc, trivial⟩) (sp_ins3 h0 h1 h2)
end Go.Proofs.YtnlnbnjnapofmaaGreat.Ov
namespace Go.Proofs.YtnlnbnjnapofmaaGreat.Ow
open Go.Rx Rt Go.Sx Go.RowKit
open Ov
theorem l1 {α : Type} {l : List α} (h : l.length = 1) : ∃ a, l = [a] := by match l, h with | [a], _ => exact ⟨a, rfl⟩
theorem l2 {α : Type} {l : List α} (h : l.length = 2) : ∃ a b, l = [a, b] := by match l, h with | [a, b], _ => exact ⟨a, b, rfl⟩
theorem l3 {α : Type} {l : List α} (h : l.length = 3) : ∃ a b c, l = [a, b, c] := by match l, h with | [a, b, c], _ => exact ⟨a, b, c, rfl⟩
end Go.Proofs.YtnlnbnjnapofmaaGreat.Ow
namespace Go.Rx
open Go.RowKit Go.Sx
abbrev Cont := Ex → St → Option (Ret × Mem)
abbrev LoopS := St → Cont → Option (Ret × Mem)
def childC : Nat → Code → Code
  | 0, .seq x _ => x
  | _ + 1, .seq _ y => y
  | 0, .cond _ x _ => x
  | _ + 1, .cond _ _ y => y
  | _, .block _ x => x
  | _, .scope x => x
  | _, .loop x => x
  | _, c => c
def codeAt (B : Code) : List Nat → Code
  | [] => B
  | i :: p => childC i (codeAt B p)
def pathEq : List Nat → List Nat → Bool
  | [], [] => true
  | x :: xs, y :: ys => Nat.beq x y && pathEq xs ys
  | _, _ => false
theorem pathEq_eq : ∀ {p q : List Nat}, pathEq p q = true → p = q
  | [], [], _ => rfl
  | x :: xs, y :: ys, h => by
    simp only [pathEq, Bool.and_eq_true] at h
    rw [Nat.eq_of_beq_eq_true h.1, pathEq_eq h.2]
  | [], _ :: _, h => by cases h
  | _ :: _, [], h => by cases h
def LF (N : Nat) (C : Cx) (cK : CallK) (x : Code) (h : Hint) (K : Cont) : Nat → St → Option (Ret × Mem)
  | 0, _ => none
  | n + 1, σ => runCK N C cK x (fun e τ => match e with
      | .normal => LF N C cK x h K n (prune h τ)
      | e => K e τ) σ
def LoopOk (N : Nat) (C : Cx) (cK : CallK) (x : Code) (S : LoopS) : Prop := ∀ K σ r, S σ K = some r → LF N C cK x (C.T.hint C.me (firstR x)) K N σ = some r
theorem loopN_LF {N : Nat} {C : Cx} {cK : CallK} {x : Code} {h : Hint} {K : Cont} : ∀ (n : Nat) (σ : St), loopN (fun again σ => runCK N C cK x (fun e σ => match e with
      | .normal => again σ
      | e => K e σ) (prune h σ)) n σ = LF N C cK x h K n (prune h σ)
  | 0, _ => rfl
  | n + 1, σ => by
    simp only [loopN, LF]
    congr 1
    funext e τ
    cases e with
    | normal => exact loopN_LF n τ
    | _ => rfl
def runCL (N : Nat) (C : Cx) (cK : CallK) (LO : List Nat → Option LoopS) : Code → List Nat → Cont → St → Option (Ret × Mem)
  | .skip, _, K, σ => K .normal σ
  | .label _, _, K, σ => K .normal σ
  | .scope x, p, K, σ => runCL N C cK LO x (0 :: p) K σ
  | .ret, _, K, σ => K .ret σ
  | .exit id, _, K, σ => K (.exit id) σ
  | .region _ ops d, _, K, σ => bif d then runDrawK C cK ops 0 ops.toList [] (K .normal) σ else runOpsK C cK ops ops.toList (K .normal) σ
  | .seq x y, p, K, σ => runCL N C cK LO x (0 :: p) (fun e σ => match e with
      | .normal => runCL N C cK LO y (1 :: p) K σ
      | e => K e σ) σ
  | .cond c x y, p, K, σ => (opv 1 σ c).bind fun v => match v with
      | .v (.b t) => bif t then runCL N C cK LO x (0 :: p) K σ else runCL N C cK LO y (1 :: p) K σ
      | _ => none
  | .block id x, p, K, σ => runCL N C cK LO x (0 :: p) (fun e σ => match e with
      | .exit id' => bif Nat.beq id' id then K .normal σ else K (.exit id') σ
      | e => K e σ) σ
  | .loop x, p, K, σ => match LO p with
      | some S => S (prune (C.T.hint C.me (firstR x)) σ) K
      | none => loopN (fun again σ => runCK N C cK x (fun e σ => match e with
          | .normal => again σ
          | e => K e σ) (prune (C.T.hint C.me (firstR x)) σ)) N σ
  | _, _, _, _ => none
section
variable {C : Cx} {cK : CallK} {r : Ret × Mem} {K0 : Ret × Mem → Option (Ret × Mem)}
theorem runCL_some {N : Nat} {LO : List Nat → Option LoopS} {B : Code} (hc : SndK C cK) (hL : ∀ p S, LO p = some S → LoopOk N C cK (childC 0 (codeAt B p)) S) : ∀ (c : Code) (p : List Nat) {K K' : Cont} (hp : codeAt B p = c) (hK : ∀ e σ, K e σ = some r → Gets K0 r (K' e σ)) (σ : St), runCL N C cK LO c p K σ = some r → Gets K0 r (runC N C c K' σ)
  | .skip, p, K, K', hp, hK, σ, h => hK _ _ h
  | .label _, p, K, K', hp, hK, σ, h => hK _ _ h
  | .scope x, p, K, K', hp, hK, σ, h => runCL_some hc hL x (0 :: p) (by simp only [codeAt, hp, childC]) hK σ h
  | .ret, p, K, K', hp, hK, σ, h => hK _ _ h
  | .exit id, p, K, K', hp, hK, σ, h => hK _ _ h
  | .region id ops d, p, K, K', hp, hK, σ, h => by
    cases d with
    | true => exact runDrawK_some hc (hK .normal) _ _ _ _ h
    | false => exact runOpsK_some hc (hK .normal) _ _ h
  | .seq x y, p, K, K', hp, hK, σ, h => by
    refine runCL_some hc hL x (0 :: p) (by simp only [codeAt, hp, childC]) (fun e τ hk => ?_) σ h
    cases e with
    | normal => exact runCL_some hc hL y (1 :: p) (by simp only [codeAt, hp, childC]) hK τ hk
    | _ => exact hK _ _ hk
  | .cond c x y, p, K, K', hp, hK, σ, h => by
    simp only [runCL, Option.bind_eq_some_iff] at h
    obtain ⟨v, hv, h⟩ := h
    simp only [runC, hv, Option.bind_some]
    split at h
    · rename_i t
      cases t with
      | true => exact runCL_some hc hL x (0 :: p) (by simp only [codeAt, hp, childC]) hK σ h
      | false => exact runCL_some hc hL y (1 :: p) (by simp only [codeAt, hp, childC]) hK σ h
    · cases h
  | .block id x, p, K, K', hp, hK, σ, h => by
    refine runCL_some hc hL x (0 :: p) (by simp only [codeAt, hp, childC]) (fun e τ hk => ?_) σ h
    cases e with
    | exit id' =>
      simp only at hk ⊢
      cases hb : Nat.beq id' id with
      | true => rw [hb] at hk; exact hK _ _ hk
      | false => rw [hb] at hk; exact hK _ _ hk
    | _ => exact hK _ _ hk
  | .loop x, p, K, K', hp, hK, σ, h => by
    simp only [runCL] at h
    simp only [runC]
    have h' : loopN (fun again σ => runCK N C cK x (fun e σ => match e with
          | .normal => again σ
          | e => K e σ) (prune (C.T.hint C.me (firstR x)) σ)) N σ = some r := by
      cases hS : LO p with
      | none => rw [hS] at h; exact h
      | some S =>
        rw [hS] at h
        have := hL p S hS
        rw [hp] at this
        rw [loopN_LF]
        exact this K _ r h
    refine loopN_some (fun a a' ha τ hs => ?_) N σ h'
    refine runCK_some hc x (fun e υ hk => ?_) _ hs
    cases e with
    | normal => exact ha _ hk
    | _ => exact hK _ _ hk
  | .rangeFunc .., p, K, K', hp, hK, σ, h => by cases h
  | .goto _, p, K, K', hp, hK, σ, h => by cases h
  | .refuse _, p, K, K', hp, hK, σ, h => by cases h
end
def cxF (T : Tab) (ok : OrK) (N f n : Nat) : Cx := ⟨T, callA ok.orc (runF T ok.orc N), callB ok.orc (runF T ok.orc N), f, n⟩
def ckF (T : Tab) (ok : OrK) (N : Nat) : CallK := callAK ok (runFK T ok N)
def bodyF (T : Tab) (f : Nat) : Code := match T.fn f with
  | some fi => fi.body
  | none => .skip
def ntmF (T : Tab) (f : Nat) : Nat := match T.fn f with
  | some fi => fi.ntmps
  | none => 0
def runKL (T : Tab) (ok : OrK) (LO : List Nat → Option LoopS) (N f : Nat) (ps : List PV) : Option (Ret × Mem) := match T.fn f with
  | none => none
  | some fi => bif Nat.ble (ps.map HV.v).length fi.ntmps then runCL N (cxF T ok N f (ntmF T f)) (ckF T ok N) LO (bodyF T f) [] (fun e σ => (endK T [] fi.results e σ).bind fun r => some (r.1, [])) ⟨initS 0 (ps.map .v), []⟩ else none
theorem ckF_snd {T : Tab} {ok : OrK} {N f n : Nat} : SndK (cxF T ok N f n) (ckF T ok N) := fun g qs K' r' hk => by
  unfold ckF callAK at hk
  show ∃ x, callA ok.orc (runF T ok.orc N) g qs = some x ∧ K' x = some r'
  unfold callA
  cases ho : ok g with
  | some o =>
    rw [ho] at hk
    simp only [Option.bind_eq_some_iff] at hk
    obtain ⟨x, hx, hk⟩ := hk
    obtain ⟨h1, hk⟩ := jJ hk
    exact ⟨x.2, by simp only [OrK.orc, ho, hx, Option.bind_some, h1, cond_true], hk⟩
  | none =>
    rw [ho] at hk
    obtain ⟨x, M, hx, hk⟩ := runFK_some N g qs K' r' hk
    have e : ok.orc.a g = none := by simp only [OrK.orc, ho, Option.bind_none]
    exact ⟨x, by simp only [e, hx, Option.bind_some], hk⟩
def loopAt (T : Tab) (f : Nat) (p : List Nat) : Code := childC 0 (codeAt (bodyF T f) p)
theorem runKL_sound {P : Program} {T : Tab} {ok : OrK} {LO : List Nat → Option LoopS} {N f : Nat} {ps : List PV} {r : Ret} (hT : TabOk P T) (hm : P.follows .mixedOrders = true) (hO : ok.Ok P)
    (hL : ∀ p S, LO p = some S → LoopOk N (cxF T ok N f (ntmF T f)) (ckF T ok N) (loopAt T f p) S) (h : runKL T ok LO N f ps = some (r, [])) : SndA1 P f ps r := by
  refine run_sound (N := N + 1) hT hm hO.orc ?_
  unfold runKL at h
  split at h
  · cases h
  · rename_i fi hfi
    obtain ⟨hb, h⟩ := jJ h
    obtain ⟨q, h1, h2⟩ := runCL_some (K0 := fun q => some (q.1, [])) (K' := endK T [] fi.results) (B := bodyF T f) ckF_snd hL (bodyF T f) [] rfl (fun e σ hk => by
      simp only [Option.bind_eq_some_iff] at hk
      exact hk) _ h
    cases h2
    have eb : bodyF T f = fi.body := by unfold bodyF; rw [hfi]
    have en : ntmF T f = fi.ntmps := by unfold ntmF; rw [hfi]
    rw [eb, en] at h1
    unfold run
    simp only [runF, hfi, hb, cond_true]
    unfold cxF at h1
    rw [h1]
    rfl
noncomputable def gSt (a b : St) : Bool := @decide (a = b) (Classical.propDecidable _)
theorem gSt_self (a : St) : gSt a a = true := @decide_eq_true _ (Classical.propDecidable _) rfl
theorem gSt_eq {a b : St} (h : gSt a b = true) : a = b := @of_decide_eq_true _ (Classical.propDecidable _) h
noncomputable def sumAt (s : St) (R : Cont → Option (Ret × Mem)) : LoopS := fun σ K => bif gSt σ s then R K else none
theorem sumAt_ok {N : Nat} {C : Cx} {cK : CallK} {x : Code} {s : St} {R : Cont → Option (Ret × Mem)} (h : ∀ K r, R K = some r → LF N C cK x (C.T.hint C.me (firstR x)) K N s = some r) : LoopOk N C cK x (sumAt s R) := fun K σ r hr => by
  unfold sumAt at hr
  obtain ⟨hg, hq⟩ := jJ hr
  have e := gSt_eq hg
  subst e
  exact h K r hq
def loopsL (l : List (List Nat × LoopS)) (p : List Nat) : Option LoopS := match l with
  | [] => none
  | x :: xs => bif pathEq x.1 p then some x.2 else loopsL xs p
theorem loopsL_ok {N : Nat} {C : Cx} {cK : CallK} {L : List Nat → Code} : ∀ {l : List (List Nat × LoopS)}, AllP (fun x : List Nat × LoopS => LoopOk N C cK (L x.1) x.2) l → ∀ p S, loopsL l p = some S → LoopOk N C cK (L p) S
  | [], _, p, S, h => by cases h
  | x :: xs, hl, p, S, h => by
    simp only [loopsL] at h
    cases hb : pathEq x.1 p with
    | true =>
      rw [hb] at h
      simp only [cond_true, Option.some.injEq] at h
      subst h
      have := pathEq_eq hb
      subst this
      exact hl.1
    | false =>
      rw [hb] at h
      exact loopsL_ok hl.2 p S h
end Go.Rx

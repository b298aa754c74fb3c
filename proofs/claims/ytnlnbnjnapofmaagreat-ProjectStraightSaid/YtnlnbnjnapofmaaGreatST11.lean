/- Part 11 of the texts behind the last one: rules and contracts. No condition. -/
import Derived.Test.YtnlnbnjnapofmaaGreatST10
namespace Go.Sx
def JB (j : J) : Prop := -1000000 ≤ j.lo ∧ j.lo ≤ j.hi ∧ j.hi ≤ 1000000
theorem jointOf_b (L : List Int) (p : Nat) (k : Int) : JB (jointOf L p k).1 := by
  by_cases h0 : kindOf (srcR L (p + 2) 8) = 0
  · rw [jointOf_fix h0]
    exact ⟨by show (-1000000 : Int) ≤ 0; omega, by show (0 : Int) ≤ 0; omega, by show (0 : Int) ≤ 1000000; omega⟩
  · by_cases h : kindOf (srcR L (p + 2) 8) = 4 ∨ kindOf (srcR L (p + 2) 8) = 5
    · rw [jointOf_sl h]
      have a := srcR_bnd L (jQ p k) (k := 3) (by decide)
      have b := srcR_bnd L (jQ p k + 1) (k := 4) (by decide)
      unfold JB
      dsimp only
      omega
    · rw [jointOf_tu h0 h]
      have a := srcR_bnd L (jQ p k) (k := 5) (by decide)
      have b := srcR_bnd L (jQ p k + 1) (k := 4) (by decide)
      have c := srcR_bnd L (jQ p k + 2) (k := 3) (by decide)
      unfold JB
      dsimp only
      rw [Int.tdiv_eq_ediv_of_nonneg (a := (1 + srcR L (jQ p k + 1) 4) * 65536) (by omega), show (-srcR L (jQ p k) 5 * 65536).tdiv 8 = -(srcR L (jQ p k) 5 * 8192) by
        rw [show -srcR L (jQ p k) 5 * 65536 = -(srcR L (jQ p k) 5 * 8192) * 8 by omega]
        exact Int.mul_tdiv_cancel _ (by decide)]
      omega
theorem jsOf_b (L : List Int) (i : Nat) : ∀ k, ∀ j ∈ (jsOf L i k).1, JB j
  | 0, j, h => by cases h
  | k + 1, j, h => by
    rcases List.mem_append.1 (show j ∈ (jsOf L i k).1 ++ [(jointOf L (jsOf L i k).2 (k : Int)).1] from h) with h | h
    · exact jsOf_b L i k j h
    · obtain rfl := List.mem_singleton.1 h
      exact jointOf_b _ _ _
def ivc (v : Iv) : List Value := [.int .i64 v.lo, .int .i64 v.hi]
def ivC (rows : List Iv) : List Value := (rows.map ivc).flatten
theorem rows2 (l : List Iv) : ∀ r ∈ l.map ivc, r.length = 2 := fun r hr => by
  obtain ⟨v, _, rfl⟩ := List.mem_map.1 hr
  rfl
end Go.Sx
namespace Go.Sx
theorem jsOf_get (L : List Int) (i : Nat) : ∀ (n k : Nat) (j : J), (jsOf L i n).1[k]? = some j → ∃ p, j = (jointOf L p (k : Int)).1
  | 0, k, j, h => by simp [jsOf] at h
  | n + 1, k, j, h => by
    have hl := jsOf_len L i n
    rcases Nat.lt_or_ge k n with hk | hk
    · exact jsOf_get L i n k j (by rw [← h]; show _ = ((jsOf L i n).1 ++ [_])[k]?; rw [List.getElem?_append_left (by omega)])
    · rcases Nat.lt_or_ge n k with hk2 | hk2
      · exfalso
        have := (List.getElem?_eq_some_iff.1 h).1
        rw [jsOf_len] at this
        omega
      · obtain rfl : k = n := by omega
        refine ⟨(jsOf L i k).2, ?_⟩
        have h' : ((jsOf L i k).1 ++ [(jointOf L (jsOf L i k).2 (k : Int)).1])[k]? = some j := h
        rw [List.getElem?_append_right (by omega), hl] at h'
        simp at h'
        exact h'.symm
theorem jointOf_same (L : List Int) (p : Nat) (k : Int) : (jointOf L p k).1.name = letterB k ∧ (jointOf L p k).1.kind = kindOf (srcR L (p + 2) 8) ∧ (jointOf L p k).1.parent = (jBase L p k).parent ∧ (jointOf L p k).1.off = (jBase L p k).off ∧
    (jointOf L p k).1.weight = 1 + srcR L p 4 ∧ (jointOf L p k).1.speed = 65536 ∧ (jointOf L p k).1.accel = 65536 + srcR L (p + 1) 3 ∧ (jointOf L p k).1.torque = 327680 := by
  unfold jointOf
  split
  · exact ⟨rfl, rfl, rfl, rfl, rfl, rfl, rfl, rfl⟩
  · split <;> exact ⟨rfl, rfl, rfl, rfl, rfl, rfl, rfl, rfl⟩
theorem kindOf_b (x : Int) : 0 ≤ kindOf x ∧ kindOf x ≤ 6 := by
  unfold kindOf; repeat' split
  all_goals omega
theorem msOf_get (L : List Int) (i : Nat) : ∀ n, ∀ m ∈ msOf L i n, (0 ≤ m.link ∧ m.link < nJ L i) ∧ (1 ≤ m.mass ∧ m.mass ≤ 65536) ∧ (-4194304 ≤ m.p.x ∧ m.p.x ≤ 4194304) ∧ (-4194304 ≤ m.p.y ∧ m.p.y ≤ 4194304) ∧ (-4194304 ≤ m.p.z ∧ m.p.z ≤ 4194304)
  | 0, m, h => by cases h
  | n + 1, m, h => by
    rcases List.mem_append.1 (show m ∈ msOf L i n ++ [_] from h) with h | h
    · exact msOf_get L i n m h
    · obtain rfl := List.mem_singleton.1 h
      have hn := nJ_b L i
      have a := srcR_bnd L (mQ L i + 1 + 4 * n) (k := (nJ L i : Int)) (by omega)
      have b := srcR_bnd L (mQ L i + 1 + 4 * n + 1) (k := 9000) (by decide)
      have c := srcR_bnd L (mQ L i + 1 + 4 * n + 2) (k := 2 * 3 + 1) (by decide)
      have d := srcR_bnd L (mQ L i + 1 + 4 * n + 3) (k := 2 * 2 + 1) (by decide)
      dsimp only
      unfold srcS
      omega
end Go.Sx
namespace Go.Sx
section
variable {P : Program} {w0 : Base} {S : Slots} {H : Heap} {d : Option Tmp} {ty : TypeId} {pos : String} {af : Array Edge} {g : Option (Nat × Bool)}
def fldB (P : Program) (s f off : Nat) : Bool :=
  match P.underlying s with
  | some (.struct fields) => match fields[f]? with
    | some fld => fld.offset == off && tyB P fld.type false 1
    | none => false
  | _ => false
theorem opV_field1 {s f off' : Nat} {x : Operand} {vs : Array Value} {v : Value} (hF : fldB P s f off' = true) (hx : ev S x = some (.agg vs)) (hv : vs[off']? = some v) :
    OpV P w0 S H ⟨d, .field s x f, ty, pos, af, g⟩ v :=
  uQ (by simp [knownB, Op.operands, hx]) rfl fun w _ => by
    unfold fldB at hF
    cases hu : P.underlying s with
    | none => simp [hu] at hF
    | some ds =>
      cases ds <;> simp [hu] at hF
      rename_i fields
      cases hf : fields[f]? with
      | none => simp [hf] at hF
      | some fld =>
        simp [hf] at hF
        obtain ⟨h1, h2⟩ := hF
        subst h1
        simp [execOp, jH hx, Instr.field, run_underlying hu, hf, asAgg, part, tyB_agg h2, hv]
end
def motV (ft fs fr : Nat) (k : Int) : Value := .agg #[.func (.func (if k = 1 ∨ k = 2 ∨ k = 3 then ft else if k = 4 ∨ k = 5 ∨ k = 6 then fs else fr)) #[.int .i64 (if k = 1 ∨ k = 2 ∨ k = 3 then k - 1 else if k = 4 ∨ k = 5 ∨ k = 6 then k - 4 else 0)] #[]]
theorem mot_t {ft fs fr : Nat} {k : Int} (h : k = 1 ∨ k = 2 ∨ k = 3) : motV ft fs fr k = .agg #[.func (.func ft) #[.int .i64 (k - 1)] #[]] := by
  unfold motV; rw [if_pos h, if_pos h]
theorem mot_s {ft fs fr : Nat} {k : Int} (h : k = 4 ∨ k = 5 ∨ k = 6) : motV ft fs fr k = .agg #[.func (.func fs) #[.int .i64 (k - 4)] #[]] := by
  have h2 : ¬ (k = 1 ∨ k = 2 ∨ k = 3) := by omega
  unfold motV; rw [if_neg h2, if_neg h2, if_pos h, if_pos h]
theorem mot_r {ft fs fr : Nat} {k : Int} (h : ¬ (k = 1 ∨ k = 2 ∨ k = 3)) (h2 : ¬ (k = 4 ∨ k = 5 ∨ k = 6)) : motV ft fs fr k = .agg #[.func (.func fr) #[.int .i64 0] #[]] := by
  unfold motV; rw [if_neg h, if_neg h, if_neg h2, if_neg h2]
def V3.put (k : Int) (a : Iv) : V3 := if k = 0 then ⟨a, iv0, iv0⟩ else if k = 1 then ⟨iv0, a, iv0⟩ else ⟨iv0, iv0, a⟩
def jMot (k : Int) (a : Iv) : Po := if k = 1 ∨ k = 2 ∨ k = 3 then Po.turn (k - 1) a else if k = 4 ∨ k = 5 ∨ k = 6 then Po.shift (V3.put (k - 4) a) else Po.rest
theorem jMot_t {k : Int} {a : Iv} (h : k = 1 ∨ k = 2 ∨ k = 3) : jMot k a = Po.turn (k - 1) a := if_pos h
theorem jMot_s {k : Int} {a : Iv} (h : k = 4 ∨ k = 5 ∨ k = 6) : jMot k a = Po.shift (V3.put (k - 4) a) := by
  have h2 : ¬ (k = 1 ∨ k = 2 ∨ k = 3) := by omega
  unfold jMot; rw [if_neg h2, if_pos h]
theorem jMot_r {k : Int} {a : Iv} (h : ¬ (k = 1 ∨ k = 2 ∨ k = 3)) (h2 : ¬ (k = 4 ∨ k = 5 ∨ k = 6)) : jMot k a = Po.rest := by
  unfold jMot; rw [if_neg h, if_neg h2]
def jPose (k : Int) (o : Z3) (a : Iv) : Po := Po.mul (Po.shift (V3.of o)) (jMot k a)
end Go.Sx
namespace Go.Proofs.YtnlnbnjnapofmaaGreat
open Go.Sx
theorem la116 : layoutOf Tryz.prog 116 = some ([.slice none 0 0, .int .i64 0], [(0, 1), (1, 1)]) := by kernel_rfl
theorem fa116_1 : fieldB Tryz.prog 116 1 1 = true := by kernel_rfl
theorem ty3 : tyB Tryz.prog 3 false 1 = true := by kernel_rfl
theorem fa116_0 : fieldB Tryz.prog 116 0 0 = true := by kernel_rfl
theorem ty22 : tyB Tryz.prog 22 false 1 = true := by kernel_rfl
theorem sl22 : slcB Tryz.prog 22 3 1 = true := by kernel_rfl
theorem en16 : Enters Tryz.prog 16 := yW Tryz.func16 (by kernel_rfl) (by kernel_rfl)
theorem en37 : Enters Tryz.prog 37 := yW Tryz.func37 (by kernel_rfl) (by kernel_rfl)
theorem src_inc {i : Nat} {L : List Int} (hl : L.length ≤ 9223372036854775807) (h : i < L.length) : IntKind.i64.wrap (((min i L.length : Nat) : Int) + 1) = ((min (i + 1) L.length : Nat) : Int) := by
  refine (zG ?_).trans ?_ <;> omega
theorem src_dec {i : Nat} {L : List Int} (hl : L.length ≤ 9223372036854775807) (h : i < L.length) : IntKind.i64.wrap (((min (i + 1) L.length : Nat) : Int) - 1) = (i : Int) := by
  refine (zG ?_).trans ?_ <;> omega
theorem src_out {w : World} {b i : Nat} {sl : Value} {L : List Int} (h : L.length ≤ i) : srcW w b sl L i = srcW w b sl L (i + 1) := by
  unfold srcW srcC
  rw [show min i L.length = min (i + 1) L.length by omega]
theorem src_outB {B : Base} {b i : Nat} {sl : Value} {L : List Int} (h : L.length ≤ i) : srcB B b sl L i = srcB B b sl L (i + 1) := by
  unfold srcB; rw [src_out h]
theorem srcR_out {i : Nat} {L : List Int} (k : Int) (h : L.length ≤ i) : (0 : Int) = srcR L i k := by
  unfold srcR
  simp [List.getD_eq_getElem?_getD, List.getElem?_eq_none h]
theorem mFrom0  (a : Option Addr) (cap : Nat) (L : List Int) (w : World) : Calls Tryz.prog 36 [.slice a L.length cap].toArray w (RetsT (NewT w (srcC (.slice a L.length cap) L 0) 116) w) := by
  refine yQ (n := 6) Tryz.func36 rfl rfl rfl ?_
  refine qJ ?_
  refine qZ ?_
  refine qK (qW rfl) rfl rfl rfl ?_
  refine qU ?_
  refine qQ ?_
  refine qJ ?_
  refine qZ ?_
  refine qK (qY rfl) rfl rfl rfl ?_
  refine qK (jV la116 rfl rfl) rfl rfl rfl ?_
  refine kK 5 rfl rfl rfl rfl ?_; intro b5
  refine qK (qW rfl) rfl rfl rfl ?_
  refine qU ?_
  refine qQ ?_
  refine yU ?_
  refine post_ret (rs := [.tmp 2]) rfl (resC (jU rfl) (resN)) rfl ?_
  intro w2 k
  rw [srcC_zero]
  exact ⟨_, rfl, k.grow, _, rfl, (k.at (i := 5) rfl).1, (k.at (i := 5) rfl).2⟩
theorem mFrom {sl : Value} {L : List Int} {m : Nat} (w : World) (h : IntsAt w m sl L) : Calls Tryz.prog 36 [sl].toArray w (RetsT (NewT w (srcC sl L 0) 116) w) := by
  obtain ⟨_, a, cap, rfl, _⟩ := h
  exact mFrom0 a cap L w
theorem srcNext {b : Nat} {sl : Value} {L : List Int} {i : Nat} (k : Int) (hk : 0 < k ∧ k ≤ 9223372036854775807) (w : World) (hs : Src w b sl L i) : Calls Tryz.prog 37 [.pointer (some ⟨b, 0, none⟩), .int .i64 k].toArray w (Rets (vI (srcR L i k)) (srcW w b sl L (i + 1))) := by
  refine calls_src (n := 35) hs Tryz.func37 rfl rfl rfl ?_
  refine qJ ?_
  obtain ⟨t0, hb⟩ := hs.blk
  obtain ⟨hlen, a, cap, rfl, hcell⟩ := hs.ints
  refine qZ ?_
  refine qK (qW rfl) rfl rfl rfl ?_
  refine qU ?_
  refine qQ ?_
  refine qJ ?_
  refine qJ ?_
  refine yX 9 mo (by kernel_rfl) ?_
  simp only [List.take_succ_cons, List.take_zero, List.drop_succ_cons, List.drop_zero]
  refine qG (qY rfl) rfl rfl rfl ?_
  refine qG (opV_nilCheck rfl) rfl rfl rfl ?_
  refine qG (qH fa116_1 rfl) rfl rfl rfl ?_
  refine qG (opV_load_base (B := ⟨w, []⟩) hb ty3 rfl rfl) rfl rfl rfl ?_
  refine qG (qY rfl) rfl rfl rfl ?_
  refine qG (opV_nilCheck rfl) rfl rfl rfl ?_
  refine qG (qH fa116_0 rfl) rfl rfl rfl ?_
  refine qG (opV_load_base (B := ⟨w, []⟩) hb ty22 rfl rfl) rfl rfl rfl ?_
  refine qG (opV_len_slice sl22 rfl) rfl rfl rfl ?_
  refine jK ?_
  refine yV ?_
  refine qK (opV_geq rfl rfl) rfl rfl rfl ?_
  refine qU ?_
  refine qQ ?_
  refine jG rfl (fun hc14 => ?_) (fun hc14 => ?_)
  ·
    have h2 : L.length ≤ i := by have := of_decide_eq_true hc14; omega
    rw [src_outB h2]
    refine qJ ?_
    refine qZ ?_
    refine qK (qW rfl) rfl rfl rfl ?_
    refine qU ?_
    refine qQ ?_
    refine yU ?_
    refine kQ ?_
    refine zH (rs := [.tmp 4]) rfl (resC (jU rfl) (resN)) (congrArg (vI) (?_ : _ = srcR L i k))
    exact srcR_out k h2
  ·
    have h2 : i < L.length := by have := of_decide_eq_false hc14; omega
    obtain ⟨bb, off, rfl, hbb, hcc⟩ := hcell i h2
    have hlt := kW hb
    refine zU ?_
    refine qQ ?_
    refine qJ ?_
    refine qZ ?_
    refine qK (qY rfl) rfl rfl rfl ?_
    refine qK (opV_nilCheck rfl) rfl rfl rfl ?_
    refine qK (qH fa116_1 rfl) rfl rfl rfl ?_
    refine qK (opV_load_base (B := ⟨w, []⟩) hb ty3 rfl rfl) rfl rfl rfl ?_
    refine qK (yJ rfl rfl (src_inc hlen h2)) rfl rfl rfl ?_
    refine qK (opV_nilCheck rfl) rfl rfl rfl ?_
    refine qK (qH fa116_1 rfl) rfl rfl rfl ?_
    refine doL_store_base (B := ⟨w, []⟩) hb ty3 rfl rfl rfl rfl rfl rfl ?_
    refine qU ?_
    refine qQ ?_
    refine qJ ?_
    refine yX 13 mo (by kernel_rfl) ?_
    simp only [List.take_succ_cons, List.take_zero, List.drop_succ_cons, List.drop_zero]
    refine qG (qY rfl) rfl rfl rfl ?_
    refine qG (opV_nilCheck rfl) rfl rfl rfl ?_
    refine qG (qH fa116_0 rfl) rfl rfl rfl ?_
    refine qG (opV_load_base (B := ⟨w, []⟩) hb ty22 rfl rfl) rfl rfl rfl ?_
    refine qG (qY rfl) rfl rfl rfl ?_
    refine qG (opV_nilCheck rfl) rfl rfl rfl ?_
    refine qG (qH fa116_1 rfl) rfl rfl rfl ?_
    refine qG (opV_load_base (B := ⟨w, []⟩) hb ty3 rfl rfl) rfl rfl rfl ?_
    refine qG (opV_sub rfl rfl (src_dec hlen h2)) rfl rfl rfl ?_
    refine qG (opV_indexSlice sl22 rfl rfl (by first | decide | omega) (by first | decide | omega)) rfl rfl rfl ?_
    refine qG (opV_load1_old ty3 rfl (by simp [Base.setRow]; omega) ((cell_setRow_other _ _ _ _ (by simp; omega)).trans (by simpa using hcc))) rfl rfl rfl ?_
    refine qG (qY rfl) rfl rfl rfl ?_
    refine yG (F := vI) (zY en16 rfl (fun w _ => mRound _ _ (by first | omega | assumption | (unfold In64; omega) | decide) w)) rfl rfl rfl ?_; intro r34 hr34
    refine jK ?_
    refine yV ?_
    refine qK (qW rfl) rfl rfl rfl ?_
    refine qU ?_
    refine qQ ?_
    refine yU ?_
    refine zH (rs := [.tmp 4]) rfl (resC (jU rfl) (resN)) (congrArg (vI) (?_ : _ = srcR L i k))
    exact hr34
theorem srcSigned {b : Nat} {sl : Value} {L : List Int} {i : Nat} (k : Int) (hk : 0 ≤ k ∧ k ≤ 1000000000) (w : World) (hs : Src w b sl L i) : Calls Tryz.prog 38 [.pointer (some ⟨b, 0, none⟩), .int .i64 k].toArray w (Rets (vI (srcS L i k)) (srcW w b sl L (i + 1))) := by
  refine calls_src (n := 12) hs Tryz.func38 rfl rfl rfl ?_
  refine qJ ?_
  refine qZ ?_
  refine qK (qW rfl) rfl rfl rfl ?_
  refine qU ?_
  refine qQ ?_
  refine qJ ?_
  refine qZ ?_
  refine qK (qY rfl) rfl rfl rfl ?_
  refine qK (qY rfl) rfl rfl rfl ?_
  refine qK (kZ rfl rfl (by first | exact zG ⟨by omega, by omega⟩ | rfl)) rfl rfl rfl ?_
  refine qK (yJ rfl rfl (by first | exact zG ⟨by omega, by omega⟩ | rfl)) rfl rfl rfl ?_
  refine kU (F := vI) hs en37 rfl (fun w' h => srcNext _ (by first | omega | assumption | (unfold In64; omega) | decide) w' h) rfl rfl ?_; intro r9 hr9
  have br9 := srcR_b hr9 (by first | decide | omega)
  refine qK (qY rfl) rfl rfl rfl ?_
  refine qK (opV_sub rfl rfl (by first | exact zG ⟨by omega, by omega⟩ | rfl)) rfl rfl rfl ?_
  refine qK (qW rfl) rfl rfl rfl ?_
  refine qU ?_
  refine qQ ?_
  refine yU ?_
  refine zH (rs := [.tmp 4]) rfl (resC (jU rfl) (resN)) (congrArg (vI) (?_ : _ = srcS L i k))
  subst_vars; rfl
end Go.Proofs.YtnlnbnjnapofmaaGreat
namespace Go.Proofs.YtnlnbnjnapofmaaGreat
open Go.Sx
theorem ze87 : zeroIs Tryz.prog 87 (.agg #[.string ByteArray.empty, .int .i64 0, .int .i64 0, .int .i64 0, .int .i64 0, .int .i64 0, .int .i64 0, .int .i64 0, .int .i64 0, .int .i64 0, .int .i64 0, .int .i64 0]) := by unfold zeroIs; kernel_rfl
theorem en56 : Enters Tryz.prog 56 := yW Tryz.func56 (by kernel_rfl) (by kernel_rfl)
theorem la87 : layoutOf Tryz.prog 87 = some ([.string ByteArray.empty, .int .i64 0, .int .i64 0, .int .i64 0, .int .i64 0, .int .i64 0, .int .i64 0, .int .i64 0, .int .i64 0, .int .i64 0, .int .i64 0, .int .i64 0], [(0, 1), (1, 1), (2, 1), (3, 3), (6, 1), (7, 1), (8, 1), (9, 1), (10, 1), (11, 1)]) := by kernel_rfl
theorem ty87 : tyB Tryz.prog 87 true 12 = true := by kernel_rfl
theorem la154 : layoutOf Tryz.prog 154 = some ([.int .i64 0, .int .i64 0, .int .i64 0, .int .i64 0, .int .i64 0, .int .i64 0, .int .i64 0, .int .i64 0], [(0, 1), (1, 1), (2, 1), (3, 1), (4, 1), (5, 1), (6, 1), (7, 1)]) := by kernel_rfl
theorem fa87_1 : fieldB Tryz.prog 87 1 1 = true := by kernel_rfl
theorem fa87_2 : fieldB Tryz.prog 87 2 2 = true := by kernel_rfl
theorem en38 : Enters Tryz.prog 38 := yW Tryz.func38 (by kernel_rfl) (by kernel_rfl)
theorem fa87_3 : fieldB Tryz.prog 87 3 3 = true := by kernel_rfl
theorem ty29 : tyB Tryz.prog 29 true 3 = true := by kernel_rfl
theorem fa87_4 : fieldB Tryz.prog 87 4 6 = true := by kernel_rfl
theorem fa87_5 : fieldB Tryz.prog 87 5 7 = true := by kernel_rfl
theorem mkLetter (k : Int) (hk : 0 ≤ k ∧ k ≤ 9) (w : World) : Calls Tryz.prog 56 [.int .i64 k].toArray w (Rets (vS (letterB k)) (w)) := by
  refine yQ (n := 7) Tryz.func56 rfl rfl rfl ?_
  refine qJ ?_
  refine qZ ?_
  refine qK (qW rfl) rfl rfl rfl ?_
  refine qU ?_
  refine qQ ?_
  refine qJ ?_
  refine qZ ?_
  refine qK (qY rfl) rfl rfl rfl ?_
  refine qK (qY rfl) rfl rfl rfl ?_
  refine qK (yJ rfl rfl (by first | exact zG ⟨by omega, by omega⟩ | rfl)) rfl rfl rfl ?_
  refine qK (opV_sliceStr (s := abc) Tryz.underlying9 rfl rfl rfl (by omega) (by omega) (by show _ ≤ (10 : Int); omega)) rfl rfl rfl ?_
  refine qK (qW rfl) rfl rfl rfl ?_
  refine qU ?_
  refine qQ ?_
  refine yU ?_
  refine zH (rs := [.tmp 2]) rfl (resC (jU rfl) (resN)) (congrArg (vS) (?_ : _ = letterB k))
  rfl
theorem ixK {i : Int} (h : 0 ≤ i ∧ i < 8) : ∀ w : World, (Instr.index 154 (.agg #[.int .i64 3, .int .i64 3, .int .i64 1, .int .i64 2, .int .i64 4, .int .i64 5, .int .i64 3, .int .i64 0]) (.int .i64 i)).run Tryz.prog w = .ok (.int .i64 (kindOf i)) w := by
  have hi : i = 0 ∨ i = 1 ∨ i = 2 ∨ i = 3 ∨ i = 4 ∨ i = 5 ∨ i = 6 ∨ i = 7 := by omega
  rcases hi with rfl | rfl | rfl | rfl | rfl | rfl | rfl | rfl <;> (intro w; kernel_rfl)
theorem quo8 {a : Int} (h : -9000000000 ≤ a ∧ a ≤ 9000000000) : IntKind.i64.wrap (a.tdiv 8) = a.tdiv 8 := zG (by
  have := tdiv_bnd (a := a) (b := 8) (by unfold In64; omega) (by decide)
  exact this)
theorem hi8 {a b : Int} (ha : 0 ≤ a ∧ a < 4) (hb : 0 ≤ b ∧ b < 3) : IntKind.i64.wrap (((1 + a) * 65536).tdiv 8 + b) = ((1 + a) * 65536).tdiv 8 + b := zG (by
  rw [Int.tdiv_eq_ediv_of_nonneg (by omega)]; omega)
theorem mkJoint {b : Nat} {sl : Value} {L : List Int} {i : Nat} (k : Int) (hk : 0 ≤ k ∧ k ≤ 9) (w : World) (hs : Src w b sl L i) : Calls Tryz.prog 65 [.pointer (some ⟨b, 0, none⟩), .int .i64 k].toArray w (Rets (jv ((jointOf L i k).1)) (srcW w b sl L ((jointOf L i k).2))) := by
  refine calls_src (n := 68) hs Tryz.func65 rfl rfl rfl ?_
  refine qJ ?_
  refine qZ ?_
  refine jZ 4 ze87 rfl rfl rfl ?_; intro b4
  refine qU ?_
  refine qQ ?_
  refine qJ ?_
  refine qZ ?_
  refine qK (qY rfl) rfl rfl rfl ?_
  refine kY (F := vS) (zY en56 rfl (fun w _ => mkLetter _ (by first | omega | assumption | (unfold In64; omega) | decide) w)) rfl rfl rfl ?_; intro r7 hr7
  refine qK (qY rfl) rfl rfl rfl ?_
  refine qK (opV_sub rfl rfl (by first | exact zG ⟨by omega, by omega⟩ | rfl)) rfl rfl rfl ?_
  refine qK (qY rfl) rfl rfl rfl ?_
  refine kU (F := vI) hs en37 rfl (fun w' h => srcNext _ (by first | omega | assumption | (unfold In64; omega) | decide) w' h) rfl rfl ?_; intro r11 hr11
  have br11 := srcR_b hr11 (by first | decide | omega)
  refine qK (yJ rfl rfl (by first | exact zG ⟨by omega, by omega⟩ | rfl)) rfl rfl rfl ?_
  refine qK (qY rfl) rfl rfl rfl ?_
  refine kU (F := vI) hs en37 rfl (fun w' h => srcNext _ (by first | omega | assumption | (unfold In64; omega) | decide) w' h) rfl rfl ?_; intro r14 hr14
  have br14 := srcR_b hr14 (by first | decide | omega)
  refine qK (yJ rfl rfl (by first | exact zG ⟨by omega, by omega⟩ | rfl)) rfl rfl rfl ?_
  refine qK (jV la87 rfl rfl) rfl rfl rfl ?_
  refine jZ 5 ze87 rfl rfl rfl ?_; intro b5
  refine zZ 5 ty87 rfl rfl rfl rfl rfl rfl rfl rfl ?_
  refine qU ?_
  refine qQ ?_
  refine qJ ?_
  refine qZ ?_
  refine qK (jV la154 rfl rfl) rfl rfl rfl ?_
  refine qK (qY rfl) rfl rfl rfl ?_
  refine kU (F := vI) hs en37 rfl (fun w' h => srcNext _ (by first | omega | assumption | (unfold In64; omega) | decide) w' h) rfl rfl ?_; intro r19 hr19
  have br19 := srcR_b hr19 (by first | decide | omega)
  refine qK (opV_index rfl rfl (ixK (by omega))) rfl rfl rfl ?_
  refine qK (qH fa87_1 rfl) rfl rfl rfl ?_
  refine zZ 5 ty3 rfl rfl rfl rfl rfl rfl rfl rfl ?_
  refine qU ?_
  refine qQ ?_
  refine qJ ?_
  refine qJ ?_
  refine qZ ?_
  refine qK (qY rfl) rfl rfl rfl ?_
  refine kU (F := vI) hs en37 rfl (fun w' h => srcNext _ (by first | omega | assumption | (unfold In64; omega) | decide) w' h) rfl rfl ?_; intro r23 hr23
  have br23 := srcR_b hr23 (by first | decide | omega)
  refine qK (uU rfl rfl) rfl rfl rfl ?_
  refine qU ?_
  refine qQ ?_
  refine jG rfl (fun hc24 => ?_) (fun hc24 => ?_)
  ·
    have hp : srcR L (i + 3) 4 = 1 := by have := of_decide_eq_true hc24; rw [← this]; exact hr23.symm
    refine qZ ?_
    refine qK (qH fa87_2 rfl) rfl rfl rfl ?_
    refine zZ 5 ty3 rfl rfl rfl rfl rfl rfl rfl rfl ?_
    refine qU ?_
    refine qQ ?_
    refine qJ ?_
    refine qJ ?_
    refine qZ ?_
    refine qK (qY rfl) rfl rfl rfl ?_
    refine qK (opV_gtr rfl rfl) rfl rfl rfl ?_
    refine qU ?_
    refine qQ ?_
    refine jG rfl (fun hc27 => ?_) (fun hc27 => ?_)
    ·
      have hi : 0 < k := of_decide_eq_true hc27
      refine qZ ?_
      refine qK (qY rfl) rfl rfl rfl ?_
      refine kU (F := vI) hs en38 rfl (fun w' h => srcSigned _ (by first | omega | assumption | (unfold In64; omega) | decide) w' h) rfl rfl ?_; intro r29 hr29
      have br29 := srcS_b hr29 (by first | decide | omega)
      refine qK (kZ rfl rfl (by first | exact zG ⟨by omega, by omega⟩ | rfl)) rfl rfl rfl ?_
      refine qK (qY rfl) rfl rfl rfl ?_
      refine kU (F := vI) hs en38 rfl (fun w' h => srcSigned _ (by first | omega | assumption | (unfold In64; omega) | decide) w' h) rfl rfl ?_; intro r32 hr32
      have br32 := srcS_b hr32 (by first | decide | omega)
      refine qK (kZ rfl rfl (by first | exact zG ⟨by omega, by omega⟩ | rfl)) rfl rfl rfl ?_
      refine qK (jV la29 rfl rfl) rfl rfl rfl ?_
      refine qK (qH fa87_3 rfl) rfl rfl rfl ?_
      refine zZ 5 ty29 rfl rfl rfl rfl rfl rfl rfl rfl ?_
      refine qU ?_
      refine qQ ?_
      refine qJ ?_
      refine qJ ?_
      refine qZ ?_
      refine qK (qH fa87_1 rfl) rfl rfl rfl ?_
      refine qK (zJ 5 ty3 rfl rfl rfl) rfl rfl rfl ?_
      refine qU ?_
      refine qQ ?_
      refine zK ?_
      refine qJ ?_
      refine qZ ?_
      refine qK (uU rfl rfl) rfl rfl rfl ?_
      refine qK (qW rfl) rfl rfl rfl ?_
      refine qU ?_
      refine qQ ?_
      refine jG rfl (fun hc53 => ?_) (fun hc53 => ?_)
      ·
        have hk0 : kindOf (srcR L (i + 2) 8) = 0 := by have := of_decide_eq_true hc53; rw [hr19] at this; exact this
        rw [jointOf_fix hk0]
        first | rw [jBase_a hp hi, jQ_pos hi] | rw [jBase_b hp hi, jQ_neg hi] | rw [jBase_c hp hi, jQ_pos hi] | rw [jBase_d hp hi, jQ_neg hi]
        refine zU ?_
        refine qV ?_
        refine qQ ?_
        refine qJ ?_
        refine qZ ?_
        refine qK (zQ 5 ty87 rfl rfl rfl) rfl rfl rfl ?_
        refine zZ 4 ty87 rfl rfl rfl rfl rfl rfl rfl rfl ?_
        refine qU ?_
        refine qQ ?_
        refine yU ?_
        refine zH (rs := [.cell 4 87]) rfl (resC (yY 4 rfl rfl ty87 rfl) (resN)) ?_
        subst_vars; rfl
      ·
        have hk0 : ¬ kindOf (srcR L (i + 2) 8) = 0 := by have := of_decide_eq_false hc53; rw [hr19] at this; exact this
        refine qJ ?_
        refine qJ ?_
        refine qZ ?_
        refine qK (uU rfl rfl) rfl rfl rfl ?_
        refine qK (qW rfl) rfl rfl rfl ?_
        refine qU ?_
        refine qQ ?_
        refine jG rfl (fun hc55 => ?_) (fun hc55 => ?_)
        ·
          have hk4 : kindOf (srcR L (i + 2) 8) = 4 := by have := of_decide_eq_true hc55; rw [hr19] at this; exact this
          rw [jointOf_sl (.inl hk4)]
          first | rw [jBase_a hp hi, jQ_pos hi] | rw [jBase_b hp hi, jQ_neg hi] | rw [jBase_c hp hi, jQ_pos hi] | rw [jBase_d hp hi, jQ_neg hi]
          refine zU ?_
          refine qQ ?_
          refine zV rfl (hc55) ?_
          refine qZ ?_
          refine qK (qY rfl) rfl rfl rfl ?_
          refine kU (F := vI) hs en37 rfl (fun w' h => srcNext _ (by first | omega | assumption | (unfold In64; omega) | decide) w' h) rfl rfl ?_; intro r59 hr59
          have br59 := srcR_b hr59 (by first | decide | omega)
          refine qK (opV_neg rfl (by first | exact neg_in ⟨by omega, by omega⟩ | rfl)) rfl rfl rfl ?_
          refine qK (kZ rfl rfl (by first | exact zG ⟨by omega, by omega⟩ | rfl)) rfl rfl rfl ?_
          refine qK (qY rfl) rfl rfl rfl ?_
          refine kU (F := vI) hs en37 rfl (fun w' h => srcNext _ (by first | omega | assumption | (unfold In64; omega) | decide) w' h) rfl rfl ?_; intro r63 hr63
          have br63 := srcR_b hr63 (by first | decide | omega)
          refine qK (kZ rfl rfl (by first | exact zG ⟨by omega, by omega⟩ | rfl)) rfl rfl rfl ?_
          refine qK (qH fa87_4 rfl) rfl rfl rfl ?_
          refine zZ 5 ty2 rfl rfl rfl rfl rfl rfl rfl rfl ?_
          refine qK (qH fa87_5 rfl) rfl rfl rfl ?_
          refine zZ 5 ty2 rfl rfl rfl rfl rfl rfl rfl rfl ?_
          refine qU ?_
          refine qV ?_
          refine qQ ?_
          refine qJ ?_
          refine qZ ?_
          refine qK (zQ 5 ty87 rfl rfl rfl) rfl rfl rfl ?_
          refine zZ 4 ty87 rfl rfl rfl rfl rfl rfl rfl rfl ?_
          refine qU ?_
          refine qQ ?_
          refine yU ?_
          refine zH (rs := [.cell 4 87]) rfl (resC (yY 4 rfl rfl ty87 rfl) (resN)) ?_
          subst_vars; rfl
        ·
          have hk4 : ¬ kindOf (srcR L (i + 2) 8) = 4 := by have := of_decide_eq_false hc55; rw [hr19] at this; exact this
          refine qZ ?_
          refine qK (uU rfl rfl) rfl rfl rfl ?_
          refine qK (qW rfl) rfl rfl rfl ?_
          refine qU ?_
          refine qQ ?_
          refine jG rfl (fun hc55_2 => ?_) (fun hc55_2 => ?_)
          ·
            have hk5 : kindOf (srcR L (i + 2) 8) = 5 := by have := of_decide_eq_true hc55_2; rw [hr19] at this; exact this
            rw [jointOf_sl (.inr hk5)]
            first | rw [jBase_a hp hi, jQ_pos hi] | rw [jBase_b hp hi, jQ_neg hi] | rw [jBase_c hp hi, jQ_pos hi] | rw [jBase_d hp hi, jQ_neg hi]
            refine qZ ?_
            refine qK (qY rfl) rfl rfl rfl ?_
            refine kU (F := vI) hs en37 rfl (fun w' h => srcNext _ (by first | omega | assumption | (unfold In64; omega) | decide) w' h) rfl rfl ?_; intro r59 hr59
            have br59 := srcR_b hr59 (by first | decide | omega)
            refine qK (opV_neg rfl (by first | exact neg_in ⟨by omega, by omega⟩ | rfl)) rfl rfl rfl ?_
            refine qK (kZ rfl rfl (by first | exact zG ⟨by omega, by omega⟩ | rfl)) rfl rfl rfl ?_
            refine qK (qY rfl) rfl rfl rfl ?_
            refine kU (F := vI) hs en37 rfl (fun w' h => srcNext _ (by first | omega | assumption | (unfold In64; omega) | decide) w' h) rfl rfl ?_; intro r63 hr63
            have br63 := srcR_b hr63 (by first | decide | omega)
            refine qK (kZ rfl rfl (by first | exact zG ⟨by omega, by omega⟩ | rfl)) rfl rfl rfl ?_
            refine qK (qH fa87_4 rfl) rfl rfl rfl ?_
            refine zZ 5 ty2 rfl rfl rfl rfl rfl rfl rfl rfl ?_
            refine qK (qH fa87_5 rfl) rfl rfl rfl ?_
            refine zZ 5 ty2 rfl rfl rfl rfl rfl rfl rfl rfl ?_
            refine qU ?_
            refine qV ?_
            refine qQ ?_
            refine qJ ?_
            refine qZ ?_
            refine qK (zQ 5 ty87 rfl rfl rfl) rfl rfl rfl ?_
            refine zZ 4 ty87 rfl rfl rfl rfl rfl rfl rfl rfl ?_
            refine qU ?_
            refine qQ ?_
            refine yU ?_
            refine zH (rs := [.cell 4 87]) rfl (resC (yY 4 rfl rfl ty87 rfl) (resN)) ?_
            subst_vars; rfl
          ·
            have hk5 : ¬ kindOf (srcR L (i + 2) 8) = 5 := by have := of_decide_eq_false hc55_2; rw [hr19] at this; exact this
            rw [jointOf_tu hk0 (by omega)]
            first | rw [jBase_a hp hi, jQ_pos hi] | rw [jBase_b hp hi, jQ_neg hi] | rw [jBase_c hp hi, jQ_pos hi] | rw [jBase_d hp hi, jQ_neg hi]
            refine qZ ?_
            refine qK (qY rfl) rfl rfl rfl ?_
            refine kU (F := vI) hs en37 rfl (fun w' h => srcNext _ (by first | omega | assumption | (unfold In64; omega) | decide) w' h) rfl rfl ?_; intro r39 hr39
            have br39 := srcR_b hr39 (by first | decide | omega)
            refine qK (opV_neg rfl (by first | exact neg_in ⟨by omega, by omega⟩ | rfl)) rfl rfl rfl ?_
            refine qK (kZ rfl rfl (by first | exact zG ⟨by omega, by omega⟩ | rfl)) rfl rfl rfl ?_
            refine qK (opV_quo rfl rfl (by first | decide | omega) (quo8 (by omega))) rfl rfl rfl ?_
            refine qK (qY rfl) rfl rfl rfl ?_
            refine kU (F := vI) hs en37 rfl (fun w' h => srcNext _ (by first | omega | assumption | (unfold In64; omega) | decide) w' h) rfl rfl ?_; intro r44 hr44
            have br44 := srcR_b hr44 (by first | decide | omega)
            refine qK (yJ rfl rfl (by first | exact zG ⟨by omega, by omega⟩ | rfl)) rfl rfl rfl ?_
            refine qK (kZ rfl rfl (by first | exact zG ⟨by omega, by omega⟩ | rfl)) rfl rfl rfl ?_
            refine qK (opV_quo rfl rfl (by first | decide | omega) (quo8 (by omega))) rfl rfl rfl ?_
            refine qK (qY rfl) rfl rfl rfl ?_
            refine kU (F := vI) hs en37 rfl (fun w' h => srcNext _ (by first | omega | assumption | (unfold In64; omega) | decide) w' h) rfl rfl ?_; intro r49 hr49
            have br49 := srcR_b hr49 (by first | decide | omega)
            refine qK (yJ rfl rfl (hi8 br44 br49)) rfl rfl rfl ?_
            refine qK (qH fa87_4 rfl) rfl rfl rfl ?_
            refine zZ 5 ty2 rfl rfl rfl rfl rfl rfl rfl rfl ?_
            refine qK (qH fa87_5 rfl) rfl rfl rfl ?_
            refine zZ 5 ty2 rfl rfl rfl rfl rfl rfl rfl rfl ?_
            refine qU ?_
            refine qV ?_
            refine qQ ?_
            refine qJ ?_
            refine qZ ?_
            refine qK (zQ 5 ty87 rfl rfl rfl) rfl rfl rfl ?_
            refine zZ 4 ty87 rfl rfl rfl rfl rfl rfl rfl rfl ?_
            refine qU ?_
            refine qQ ?_
            refine yU ?_
            refine zH (rs := [.cell 4 87]) rfl (resC (yY 4 rfl rfl ty87 rfl) (resN)) ?_
            subst_vars; rfl
    ·
      have hi : ¬ 0 < k := of_decide_eq_false hc27
      refine zU ?_
      refine qQ ?_
      refine qJ ?_
      refine qJ ?_
      refine qZ ?_
      refine qK (qH fa87_1 rfl) rfl rfl rfl ?_
      refine qK (zJ 5 ty3 rfl rfl rfl) rfl rfl rfl ?_
      refine qU ?_
      refine qQ ?_
      refine zK ?_
      refine qJ ?_
      refine qZ ?_
      refine qK (uU rfl rfl) rfl rfl rfl ?_
      refine qK (qW rfl) rfl rfl rfl ?_
      refine qU ?_
      refine qQ ?_
      refine jG rfl (fun hc53 => ?_) (fun hc53 => ?_)
      ·
        have hk0 : kindOf (srcR L (i + 2) 8) = 0 := by have := of_decide_eq_true hc53; rw [hr19] at this; exact this
        rw [jointOf_fix hk0]
        first | rw [jBase_a hp hi, jQ_pos hi] | rw [jBase_b hp hi, jQ_neg hi] | rw [jBase_c hp hi, jQ_pos hi] | rw [jBase_d hp hi, jQ_neg hi]
        refine zU ?_
        refine qV ?_
        refine qQ ?_
        refine qJ ?_
        refine qZ ?_
        refine qK (zQ 5 ty87 rfl rfl rfl) rfl rfl rfl ?_
        refine zZ 4 ty87 rfl rfl rfl rfl rfl rfl rfl rfl ?_
        refine qU ?_
        refine qQ ?_
        refine yU ?_
        refine zH (rs := [.cell 4 87]) rfl (resC (yY 4 rfl rfl ty87 rfl) (resN)) ?_
        subst_vars; rfl
      ·
        have hk0 : ¬ kindOf (srcR L (i + 2) 8) = 0 := by have := of_decide_eq_false hc53; rw [hr19] at this; exact this
        refine qJ ?_
        refine qJ ?_
        refine qZ ?_
        refine qK (uU rfl rfl) rfl rfl rfl ?_
        refine qK (qW rfl) rfl rfl rfl ?_
        refine qU ?_
        refine qQ ?_
        refine jG rfl (fun hc55 => ?_) (fun hc55 => ?_)
        ·
          have hk4 : kindOf (srcR L (i + 2) 8) = 4 := by have := of_decide_eq_true hc55; rw [hr19] at this; exact this
          rw [jointOf_sl (.inl hk4)]
          first | rw [jBase_a hp hi, jQ_pos hi] | rw [jBase_b hp hi, jQ_neg hi] | rw [jBase_c hp hi, jQ_pos hi] | rw [jBase_d hp hi, jQ_neg hi]
          refine zU ?_
          refine qQ ?_
          refine zV rfl (hc55) ?_
          refine qZ ?_
          refine qK (qY rfl) rfl rfl rfl ?_
          refine kU (F := vI) hs en37 rfl (fun w' h => srcNext _ (by first | omega | assumption | (unfold In64; omega) | decide) w' h) rfl rfl ?_; intro r59 hr59
          have br59 := srcR_b hr59 (by first | decide | omega)
          refine qK (opV_neg rfl (by first | exact neg_in ⟨by omega, by omega⟩ | rfl)) rfl rfl rfl ?_
          refine qK (kZ rfl rfl (by first | exact zG ⟨by omega, by omega⟩ | rfl)) rfl rfl rfl ?_
          refine qK (qY rfl) rfl rfl rfl ?_
          refine kU (F := vI) hs en37 rfl (fun w' h => srcNext _ (by first | omega | assumption | (unfold In64; omega) | decide) w' h) rfl rfl ?_; intro r63 hr63
          have br63 := srcR_b hr63 (by first | decide | omega)
          refine qK (kZ rfl rfl (by first | exact zG ⟨by omega, by omega⟩ | rfl)) rfl rfl rfl ?_
          refine qK (qH fa87_4 rfl) rfl rfl rfl ?_
          refine zZ 5 ty2 rfl rfl rfl rfl rfl rfl rfl rfl ?_
          refine qK (qH fa87_5 rfl) rfl rfl rfl ?_
          refine zZ 5 ty2 rfl rfl rfl rfl rfl rfl rfl rfl ?_
          refine qU ?_
          refine qV ?_
          refine qQ ?_
          refine qJ ?_
          refine qZ ?_
          refine qK (zQ 5 ty87 rfl rfl rfl) rfl rfl rfl ?_
          refine zZ 4 ty87 rfl rfl rfl rfl rfl rfl rfl rfl ?_
          refine qU ?_
          refine qQ ?_
          refine yU ?_
          refine zH (rs := [.cell 4 87]) rfl (resC (yY 4 rfl rfl ty87 rfl) (resN)) ?_
          subst_vars; rfl
        ·
          have hk4 : ¬ kindOf (srcR L (i + 2) 8) = 4 := by have := of_decide_eq_false hc55; rw [hr19] at this; exact this
          refine qZ ?_
          refine qK (uU rfl rfl) rfl rfl rfl ?_
          refine qK (qW rfl) rfl rfl rfl ?_
          refine qU ?_
          refine qQ ?_
          refine jG rfl (fun hc55_2 => ?_) (fun hc55_2 => ?_)
          ·
            have hk5 : kindOf (srcR L (i + 2) 8) = 5 := by have := of_decide_eq_true hc55_2; rw [hr19] at this; exact this
            rw [jointOf_sl (.inr hk5)]
            first | rw [jBase_a hp hi, jQ_pos hi] | rw [jBase_b hp hi, jQ_neg hi] | rw [jBase_c hp hi, jQ_pos hi] | rw [jBase_d hp hi, jQ_neg hi]
            refine qZ ?_
            refine qK (qY rfl) rfl rfl rfl ?_
            refine kU (F := vI) hs en37 rfl (fun w' h => srcNext _ (by first | omega | assumption | (unfold In64; omega) | decide) w' h) rfl rfl ?_; intro r59 hr59
            have br59 := srcR_b hr59 (by first | decide | omega)
            refine qK (opV_neg rfl (by first | exact neg_in ⟨by omega, by omega⟩ | rfl)) rfl rfl rfl ?_
            refine qK (kZ rfl rfl (by first | exact zG ⟨by omega, by omega⟩ | rfl)) rfl rfl rfl ?_
            refine qK (qY rfl) rfl rfl rfl ?_
            refine kU (F := vI) hs en37 rfl (fun w' h => srcNext _ (by first | omega | assumption | (unfold In64; omega) | decide) w' h) rfl rfl ?_; intro r63 hr63
            have br63 := srcR_b hr63 (by first | decide | omega)
            refine qK (kZ rfl rfl (by first | exact zG ⟨by omega, by omega⟩ | rfl)) rfl rfl rfl ?_
            refine qK (qH fa87_4 rfl) rfl rfl rfl ?_
            refine zZ 5 ty2 rfl rfl rfl rfl rfl rfl rfl rfl ?_
            refine qK (qH fa87_5 rfl) rfl rfl rfl ?_
            refine zZ 5 ty2 rfl rfl rfl rfl rfl rfl rfl rfl ?_
            refine qU ?_
            refine qV ?_
            refine qQ ?_
            refine qJ ?_
            refine qZ ?_
            refine qK (zQ 5 ty87 rfl rfl rfl) rfl rfl rfl ?_
            refine zZ 4 ty87 rfl rfl rfl rfl rfl rfl rfl rfl ?_
            refine qU ?_
            refine qQ ?_
            refine yU ?_
            refine zH (rs := [.cell 4 87]) rfl (resC (yY 4 rfl rfl ty87 rfl) (resN)) ?_
            subst_vars; rfl
          ·
            have hk5 : ¬ kindOf (srcR L (i + 2) 8) = 5 := by have := of_decide_eq_false hc55_2; rw [hr19] at this; exact this
            rw [jointOf_tu hk0 (by omega)]
            first | rw [jBase_a hp hi, jQ_pos hi] | rw [jBase_b hp hi, jQ_neg hi] | rw [jBase_c hp hi, jQ_pos hi] | rw [jBase_d hp hi, jQ_neg hi]
            refine qZ ?_
            refine qK (qY rfl) rfl rfl rfl ?_
            refine kU (F := vI) hs en37 rfl (fun w' h => srcNext _ (by first | omega | assumption | (unfold In64; omega) | decide) w' h) rfl rfl ?_; intro r39 hr39
            have br39 := srcR_b hr39 (by first | decide | omega)
            refine qK (opV_neg rfl (by first | exact neg_in ⟨by omega, by omega⟩ | rfl)) rfl rfl rfl ?_
            refine qK (kZ rfl rfl (by first | exact zG ⟨by omega, by omega⟩ | rfl)) rfl rfl rfl ?_
            refine qK (opV_quo rfl rfl (by first | decide | omega) (quo8 (by omega))) rfl rfl rfl ?_
            refine qK (qY rfl) rfl rfl rfl ?_
            refine kU (F := vI) hs en37 rfl (fun w' h => srcNext _ (by first | omega | assumption | (unfold In64; omega) | decide) w' h) rfl rfl ?_; intro r44 hr44
            have br44 := srcR_b hr44 (by first | decide | omega)
            refine qK (yJ rfl rfl (by first | exact zG ⟨by omega, by omega⟩ | rfl)) rfl rfl rfl ?_
            refine qK (kZ rfl rfl (by first | exact zG ⟨by omega, by omega⟩ | rfl)) rfl rfl rfl ?_
            refine qK (opV_quo rfl rfl (by first | decide | omega) (quo8 (by omega))) rfl rfl rfl ?_
            refine qK (qY rfl) rfl rfl rfl ?_
            refine kU (F := vI) hs en37 rfl (fun w' h => srcNext _ (by first | omega | assumption | (unfold In64; omega) | decide) w' h) rfl rfl ?_; intro r49 hr49
            have br49 := srcR_b hr49 (by first | decide | omega)
            refine qK (yJ rfl rfl (hi8 br44 br49)) rfl rfl rfl ?_
            refine qK (qH fa87_4 rfl) rfl rfl rfl ?_
            refine zZ 5 ty2 rfl rfl rfl rfl rfl rfl rfl rfl ?_
            refine qK (qH fa87_5 rfl) rfl rfl rfl ?_
            refine zZ 5 ty2 rfl rfl rfl rfl rfl rfl rfl rfl ?_
            refine qU ?_
            refine qV ?_
            refine qQ ?_
            refine qJ ?_
            refine qZ ?_
            refine qK (zQ 5 ty87 rfl rfl rfl) rfl rfl rfl ?_
            refine zZ 4 ty87 rfl rfl rfl rfl rfl rfl rfl rfl ?_
            refine qU ?_
            refine qQ ?_
            refine yU ?_
            refine zH (rs := [.cell 4 87]) rfl (resC (yY 4 rfl rfl ty87 rfl) (resN)) ?_
            subst_vars; rfl
  ·
    have hp : ¬ srcR L (i + 3) 4 = 1 := fun e => by have := of_decide_eq_false hc24; exact this (hr23.trans e)
    refine zU ?_
    refine qQ ?_
    refine qJ ?_
    refine qJ ?_
    refine qZ ?_
    refine qK (qY rfl) rfl rfl rfl ?_
    refine qK (opV_gtr rfl rfl) rfl rfl rfl ?_
    refine qU ?_
    refine qQ ?_
    refine jG rfl (fun hc27 => ?_) (fun hc27 => ?_)
    ·
      have hi : 0 < k := of_decide_eq_true hc27
      refine qZ ?_
      refine qK (qY rfl) rfl rfl rfl ?_
      refine kU (F := vI) hs en38 rfl (fun w' h => srcSigned _ (by first | omega | assumption | (unfold In64; omega) | decide) w' h) rfl rfl ?_; intro r29 hr29
      have br29 := srcS_b hr29 (by first | decide | omega)
      refine qK (kZ rfl rfl (by first | exact zG ⟨by omega, by omega⟩ | rfl)) rfl rfl rfl ?_
      refine qK (qY rfl) rfl rfl rfl ?_
      refine kU (F := vI) hs en38 rfl (fun w' h => srcSigned _ (by first | omega | assumption | (unfold In64; omega) | decide) w' h) rfl rfl ?_; intro r32 hr32
      have br32 := srcS_b hr32 (by first | decide | omega)
      refine qK (kZ rfl rfl (by first | exact zG ⟨by omega, by omega⟩ | rfl)) rfl rfl rfl ?_
      refine qK (jV la29 rfl rfl) rfl rfl rfl ?_
      refine qK (qH fa87_3 rfl) rfl rfl rfl ?_
      refine zZ 5 ty29 rfl rfl rfl rfl rfl rfl rfl rfl ?_
      refine qU ?_
      refine qQ ?_
      refine qJ ?_
      refine qJ ?_
      refine qZ ?_
      refine qK (qH fa87_1 rfl) rfl rfl rfl ?_
      refine qK (zJ 5 ty3 rfl rfl rfl) rfl rfl rfl ?_
      refine qU ?_
      refine qQ ?_
      refine zK ?_
      refine qJ ?_
      refine qZ ?_
      refine qK (uU rfl rfl) rfl rfl rfl ?_
      refine qK (qW rfl) rfl rfl rfl ?_
      refine qU ?_
      refine qQ ?_
      refine jG rfl (fun hc53 => ?_) (fun hc53 => ?_)
      ·
        have hk0 : kindOf (srcR L (i + 2) 8) = 0 := by have := of_decide_eq_true hc53; rw [hr19] at this; exact this
        rw [jointOf_fix hk0]
        first | rw [jBase_a hp hi, jQ_pos hi] | rw [jBase_b hp hi, jQ_neg hi] | rw [jBase_c hp hi, jQ_pos hi] | rw [jBase_d hp hi, jQ_neg hi]
        refine zU ?_
        refine qV ?_
        refine qQ ?_
        refine qJ ?_
        refine qZ ?_
        refine qK (zQ 5 ty87 rfl rfl rfl) rfl rfl rfl ?_
        refine zZ 4 ty87 rfl rfl rfl rfl rfl rfl rfl rfl ?_
        refine qU ?_
        refine qQ ?_
        refine yU ?_
        refine zH (rs := [.cell 4 87]) rfl (resC (yY 4 rfl rfl ty87 rfl) (resN)) ?_
        subst_vars; rfl
      ·
        have hk0 : ¬ kindOf (srcR L (i + 2) 8) = 0 := by have := of_decide_eq_false hc53; rw [hr19] at this; exact this
        refine qJ ?_
        refine qJ ?_
        refine qZ ?_
        refine qK (uU rfl rfl) rfl rfl rfl ?_
        refine qK (qW rfl) rfl rfl rfl ?_
        refine qU ?_
        refine qQ ?_
        refine jG rfl (fun hc55 => ?_) (fun hc55 => ?_)
        ·
          have hk4 : kindOf (srcR L (i + 2) 8) = 4 := by have := of_decide_eq_true hc55; rw [hr19] at this; exact this
          rw [jointOf_sl (.inl hk4)]
          first | rw [jBase_a hp hi, jQ_pos hi] | rw [jBase_b hp hi, jQ_neg hi] | rw [jBase_c hp hi, jQ_pos hi] | rw [jBase_d hp hi, jQ_neg hi]
          refine zU ?_
          refine qQ ?_
          refine zV rfl (hc55) ?_
          refine qZ ?_
          refine qK (qY rfl) rfl rfl rfl ?_
          refine kU (F := vI) hs en37 rfl (fun w' h => srcNext _ (by first | omega | assumption | (unfold In64; omega) | decide) w' h) rfl rfl ?_; intro r59 hr59
          have br59 := srcR_b hr59 (by first | decide | omega)
          refine qK (opV_neg rfl (by first | exact neg_in ⟨by omega, by omega⟩ | rfl)) rfl rfl rfl ?_
          refine qK (kZ rfl rfl (by first | exact zG ⟨by omega, by omega⟩ | rfl)) rfl rfl rfl ?_
          refine qK (qY rfl) rfl rfl rfl ?_
          refine kU (F := vI) hs en37 rfl (fun w' h => srcNext _ (by first | omega | assumption | (unfold In64; omega) | decide) w' h) rfl rfl ?_; intro r63 hr63
          have br63 := srcR_b hr63 (by first | decide | omega)
          refine qK (kZ rfl rfl (by first | exact zG ⟨by omega, by omega⟩ | rfl)) rfl rfl rfl ?_
          refine qK (qH fa87_4 rfl) rfl rfl rfl ?_
          refine zZ 5 ty2 rfl rfl rfl rfl rfl rfl rfl rfl ?_
          refine qK (qH fa87_5 rfl) rfl rfl rfl ?_
          refine zZ 5 ty2 rfl rfl rfl rfl rfl rfl rfl rfl ?_
          refine qU ?_
          refine qV ?_
          refine qQ ?_
          refine qJ ?_
          refine qZ ?_
          refine qK (zQ 5 ty87 rfl rfl rfl) rfl rfl rfl ?_
          refine zZ 4 ty87 rfl rfl rfl rfl rfl rfl rfl rfl ?_
          refine qU ?_
          refine qQ ?_
          refine yU ?_
          refine zH (rs := [.cell 4 87]) rfl (resC (yY 4 rfl rfl ty87 rfl) (resN)) ?_
          subst_vars; rfl
        ·
          have hk4 : ¬ kindOf (srcR L (i + 2) 8) = 4 := by have := of_decide_eq_false hc55; rw [hr19] at this; exact this
          refine qZ ?_
          refine qK (uU rfl rfl) rfl rfl rfl ?_
          refine qK (qW rfl) rfl rfl rfl ?_
          refine qU ?_
          refine qQ ?_
          refine jG rfl (fun hc55_2 => ?_) (fun hc55_2 => ?_)
          ·
            have hk5 : kindOf (srcR L (i + 2) 8) = 5 := by have := of_decide_eq_true hc55_2; rw [hr19] at this; exact this
            rw [jointOf_sl (.inr hk5)]
            first | rw [jBase_a hp hi, jQ_pos hi] | rw [jBase_b hp hi, jQ_neg hi] | rw [jBase_c hp hi, jQ_pos hi] | rw [jBase_d hp hi, jQ_neg hi]
            refine qZ ?_
            refine qK (qY rfl) rfl rfl rfl ?_
            refine kU (F := vI) hs en37 rfl (fun w' h => srcNext _ (by first | omega | assumption | (unfold In64; omega) | decide) w' h) rfl rfl ?_; intro r59 hr59
            have br59 := srcR_b hr59 (by first | decide | omega)
            refine qK (opV_neg rfl (by first | exact neg_in ⟨by omega, by omega⟩ | rfl)) rfl rfl rfl ?_
            refine qK (kZ rfl rfl (by first | exact zG ⟨by omega, by omega⟩ | rfl)) rfl rfl rfl ?_
            refine qK (qY rfl) rfl rfl rfl ?_
            refine kU (F := vI) hs en37 rfl (fun w' h => srcNext _ (by first | omega | assumption | (unfold In64; omega) | decide) w' h) rfl rfl ?_; intro r63 hr63
            have br63 := srcR_b hr63 (by first | decide | omega)
            refine qK (kZ rfl rfl (by first | exact zG ⟨by omega, by omega⟩ | rfl)) rfl rfl rfl ?_
            refine qK (qH fa87_4 rfl) rfl rfl rfl ?_
            refine zZ 5 ty2 rfl rfl rfl rfl rfl rfl rfl rfl ?_
            refine qK (qH fa87_5 rfl) rfl rfl rfl ?_
            refine zZ 5 ty2 rfl rfl rfl rfl rfl rfl rfl rfl ?_
            refine qU ?_
            refine qV ?_
            refine qQ ?_
            refine qJ ?_
            refine qZ ?_
            refine qK (zQ 5 ty87 rfl rfl rfl) rfl rfl rfl ?_
            refine zZ 4 ty87 rfl rfl rfl rfl rfl rfl rfl rfl ?_
            refine qU ?_
            refine qQ ?_
            refine yU ?_
            refine zH (rs := [.cell 4 87]) rfl (resC (yY 4 rfl rfl ty87 rfl) (resN)) ?_
            subst_vars; rfl
          ·
            have hk5 : ¬ kindOf (srcR L (i + 2) 8) = 5 := by have := of_decide_eq_false hc55_2; rw [hr19] at this; exact this
            rw [jointOf_tu hk0 (by omega)]
            first | rw [jBase_a hp hi, jQ_pos hi] | rw [jBase_b hp hi, jQ_neg hi] | rw [jBase_c hp hi, jQ_pos hi] | rw [jBase_d hp hi, jQ_neg hi]
            refine qZ ?_
            refine qK (qY rfl) rfl rfl rfl ?_
            refine kU (F := vI) hs en37 rfl (fun w' h => srcNext _ (by first | omega | assumption | (unfold In64; omega) | decide) w' h) rfl rfl ?_; intro r39 hr39
            have br39 := srcR_b hr39 (by first | decide | omega)
            refine qK (opV_neg rfl (by first | exact neg_in ⟨by omega, by omega⟩ | rfl)) rfl rfl rfl ?_
            refine qK (kZ rfl rfl (by first | exact zG ⟨by omega, by omega⟩ | rfl)) rfl rfl rfl ?_
            refine qK (opV_quo rfl rfl (by first | decide | omega) (quo8 (by omega))) rfl rfl rfl ?_
            refine qK (qY rfl) rfl rfl rfl ?_
            refine kU (F := vI) hs en37 rfl (fun w' h => srcNext _ (by first | omega | assumption | (unfold In64; omega) | decide) w' h) rfl rfl ?_; intro r44 hr44
            have br44 := srcR_b hr44 (by first | decide | omega)
            refine qK (yJ rfl rfl (by first | exact zG ⟨by omega, by omega⟩ | rfl)) rfl rfl rfl ?_
            refine qK (kZ rfl rfl (by first | exact zG ⟨by omega, by omega⟩ | rfl)) rfl rfl rfl ?_
            refine qK (opV_quo rfl rfl (by first | decide | omega) (quo8 (by omega))) rfl rfl rfl ?_
            refine qK (qY rfl) rfl rfl rfl ?_
            refine kU (F := vI) hs en37 rfl (fun w' h => srcNext _ (by first | omega | assumption | (unfold In64; omega) | decide) w' h) rfl rfl ?_; intro r49 hr49
            have br49 := srcR_b hr49 (by first | decide | omega)
            refine qK (yJ rfl rfl (hi8 br44 br49)) rfl rfl rfl ?_
            refine qK (qH fa87_4 rfl) rfl rfl rfl ?_
            refine zZ 5 ty2 rfl rfl rfl rfl rfl rfl rfl rfl ?_
            refine qK (qH fa87_5 rfl) rfl rfl rfl ?_
            refine zZ 5 ty2 rfl rfl rfl rfl rfl rfl rfl rfl ?_
            refine qU ?_
            refine qV ?_
            refine qQ ?_
            refine qJ ?_
            refine qZ ?_
            refine qK (zQ 5 ty87 rfl rfl rfl) rfl rfl rfl ?_
            refine zZ 4 ty87 rfl rfl rfl rfl rfl rfl rfl rfl ?_
            refine qU ?_
            refine qQ ?_
            refine yU ?_
            refine zH (rs := [.cell 4 87]) rfl (resC (yY 4 rfl rfl ty87 rfl) (resN)) ?_
            subst_vars; rfl
    ·
      have hi : ¬ 0 < k := of_decide_eq_false hc27
      refine zU ?_
      refine qQ ?_
      refine qJ ?_
      refine qJ ?_
      refine qZ ?_
      refine qK (qH fa87_1 rfl) rfl rfl rfl ?_
      refine qK (zJ 5 ty3 rfl rfl rfl) rfl rfl rfl ?_
      refine qU ?_
      refine qQ ?_
      refine zK ?_
      refine qJ ?_
      refine qZ ?_
      refine qK (uU rfl rfl) rfl rfl rfl ?_
      refine qK (qW rfl) rfl rfl rfl ?_
      refine qU ?_
      refine qQ ?_
      refine jG rfl (fun hc53 => ?_) (fun hc53 => ?_)
      ·
        have hk0 : kindOf (srcR L (i + 2) 8) = 0 := by have := of_decide_eq_true hc53; rw [hr19] at this; exact this
        rw [jointOf_fix hk0]
        first | rw [jBase_a hp hi, jQ_pos hi] | rw [jBase_b hp hi, jQ_neg hi] | rw [jBase_c hp hi, jQ_pos hi] | rw [jBase_d hp hi, jQ_neg hi]
        refine zU ?_
        refine qV ?_
        refine qQ ?_
        refine qJ ?_
        refine qZ ?_
        refine qK (zQ 5 ty87 rfl rfl rfl) rfl rfl rfl ?_
        refine zZ 4 ty87 rfl rfl rfl rfl rfl rfl rfl rfl ?_
        refine qU ?_
        refine qQ ?_
        refine yU ?_
        refine zH (rs := [.cell 4 87]) rfl (resC (yY 4 rfl rfl ty87 rfl) (resN)) ?_
        subst_vars; rfl
      ·
        have hk0 : ¬ kindOf (srcR L (i + 2) 8) = 0 := by have := of_decide_eq_false hc53; rw [hr19] at this; exact this
        refine qJ ?_
        refine qJ ?_
        refine qZ ?_
        refine qK (uU rfl rfl) rfl rfl rfl ?_
        refine qK (qW rfl) rfl rfl rfl ?_
        refine qU ?_
        refine qQ ?_
        refine jG rfl (fun hc55 => ?_) (fun hc55 => ?_)
        ·
          have hk4 : kindOf (srcR L (i + 2) 8) = 4 := by have := of_decide_eq_true hc55; rw [hr19] at this; exact this
          rw [jointOf_sl (.inl hk4)]
          first | rw [jBase_a hp hi, jQ_pos hi] | rw [jBase_b hp hi, jQ_neg hi] | rw [jBase_c hp hi, jQ_pos hi] | rw [jBase_d hp hi, jQ_neg hi]
          refine zU ?_
          refine qQ ?_
          refine zV rfl (hc55) ?_
          refine qZ ?_
          refine qK (qY rfl) rfl rfl rfl ?_
          refine kU (F := vI) hs en37 rfl (fun w' h => srcNext _ (by first | omega | assumption | (unfold In64; omega) | decide) w' h) rfl rfl ?_; intro r59 hr59
          have br59 := srcR_b hr59 (by first | decide | omega)
          refine qK (opV_neg rfl (by first | exact neg_in ⟨by omega, by omega⟩ | rfl)) rfl rfl rfl ?_
          refine qK (kZ rfl rfl (by first | exact zG ⟨by omega, by omega⟩ | rfl)) rfl rfl rfl ?_
          refine qK (qY rfl) rfl rfl rfl ?_
          refine kU (F := vI) hs en37 rfl (fun w' h => srcNext _ (by first | omega | assumption | (unfold In64; omega) | decide) w' h) rfl rfl ?_; intro r63 hr63
          have br63 := srcR_b hr63 (by first | decide | omega)
          refine qK (kZ rfl rfl (by first | exact zG ⟨by omega, by omega⟩ | rfl)) rfl rfl rfl ?_
          refine qK (qH fa87_4 rfl) rfl rfl rfl ?_
          refine zZ 5 ty2 rfl rfl rfl rfl rfl rfl rfl rfl ?_
          refine qK (qH fa87_5 rfl) rfl rfl rfl ?_
          refine zZ 5 ty2 rfl rfl rfl rfl rfl rfl rfl rfl ?_
          refine qU ?_
          refine qV ?_
          refine qQ ?_
          refine qJ ?_
          refine qZ ?_
          refine qK (zQ 5 ty87 rfl rfl rfl) rfl rfl rfl ?_
          refine zZ 4 ty87 rfl rfl rfl rfl rfl rfl rfl rfl ?_
          refine qU ?_
          refine qQ ?_
          refine yU ?_
          refine zH (rs := [.cell 4 87]) rfl (resC (yY 4 rfl rfl ty87 rfl) (resN)) ?_
          subst_vars; rfl
        ·
          have hk4 : ¬ kindOf (srcR L (i + 2) 8) = 4 := by have := of_decide_eq_false hc55; rw [hr19] at this; exact this
          refine qZ ?_
          refine qK (uU rfl rfl) rfl rfl rfl ?_
          refine qK (qW rfl) rfl rfl rfl ?_
          refine qU ?_
          refine qQ ?_
          refine jG rfl (fun hc55_2 => ?_) (fun hc55_2 => ?_)
          ·
            have hk5 : kindOf (srcR L (i + 2) 8) = 5 := by have := of_decide_eq_true hc55_2; rw [hr19] at this; exact this
            rw [jointOf_sl (.inr hk5)]
            first | rw [jBase_a hp hi, jQ_pos hi] | rw [jBase_b hp hi, jQ_neg hi] | rw [jBase_c hp hi, jQ_pos hi] | rw [jBase_d hp hi, jQ_neg hi]
            refine qZ ?_
            refine qK (qY rfl) rfl rfl rfl ?_
            refine kU (F := vI) hs en37 rfl (fun w' h => srcNext _ (by first | omega | assumption | (unfold In64; omega) | decide) w' h) rfl rfl ?_; intro r59 hr59
            have br59 := srcR_b hr59 (by first | decide | omega)
            refine qK (opV_neg rfl (by first | exact neg_in ⟨by omega, by omega⟩ | rfl)) rfl rfl rfl ?_
            refine qK (kZ rfl rfl (by first | exact zG ⟨by omega, by omega⟩ | rfl)) rfl rfl rfl ?_
            refine qK (qY rfl) rfl rfl rfl ?_
            refine kU (F := vI) hs en37 rfl (fun w' h => srcNext _ (by first | omega | assumption | (unfold In64; omega) | decide) w' h) rfl rfl ?_; intro r63 hr63
            have br63 := srcR_b hr63 (by first | decide | omega)
            refine qK (kZ rfl rfl (by first | exact zG ⟨by omega, by omega⟩ | rfl)) rfl rfl rfl ?_
            refine qK (qH fa87_4 rfl) rfl rfl rfl ?_
            refine zZ 5 ty2 rfl rfl rfl rfl rfl rfl rfl rfl ?_
            refine qK (qH fa87_5 rfl) rfl rfl rfl ?_
            refine zZ 5 ty2 rfl rfl rfl rfl rfl rfl rfl rfl ?_
            refine qU ?_
            refine qV ?_
            refine qQ ?_
            refine qJ ?_
            refine qZ ?_
            refine qK (zQ 5 ty87 rfl rfl rfl) rfl rfl rfl ?_
            refine zZ 4 ty87 rfl rfl rfl rfl rfl rfl rfl rfl ?_
            refine qU ?_
            refine qQ ?_
            refine yU ?_
            refine zH (rs := [.cell 4 87]) rfl (resC (yY 4 rfl rfl ty87 rfl) (resN)) ?_
            subst_vars; rfl
          ·
            have hk5 : ¬ kindOf (srcR L (i + 2) 8) = 5 := by have := of_decide_eq_false hc55_2; rw [hr19] at this; exact this
            rw [jointOf_tu hk0 (by omega)]
            first | rw [jBase_a hp hi, jQ_pos hi] | rw [jBase_b hp hi, jQ_neg hi] | rw [jBase_c hp hi, jQ_pos hi] | rw [jBase_d hp hi, jQ_neg hi]
            refine qZ ?_
            refine qK (qY rfl) rfl rfl rfl ?_
            refine kU (F := vI) hs en37 rfl (fun w' h => srcNext _ (by first | omega | assumption | (unfold In64; omega) | decide) w' h) rfl rfl ?_; intro r39 hr39
            have br39 := srcR_b hr39 (by first | decide | omega)
            refine qK (opV_neg rfl (by first | exact neg_in ⟨by omega, by omega⟩ | rfl)) rfl rfl rfl ?_
            refine qK (kZ rfl rfl (by first | exact zG ⟨by omega, by omega⟩ | rfl)) rfl rfl rfl ?_
            refine qK (opV_quo rfl rfl (by first | decide | omega) (quo8 (by omega))) rfl rfl rfl ?_
            refine qK (qY rfl) rfl rfl rfl ?_
            refine kU (F := vI) hs en37 rfl (fun w' h => srcNext _ (by first | omega | assumption | (unfold In64; omega) | decide) w' h) rfl rfl ?_; intro r44 hr44
            have br44 := srcR_b hr44 (by first | decide | omega)
            refine qK (yJ rfl rfl (by first | exact zG ⟨by omega, by omega⟩ | rfl)) rfl rfl rfl ?_
            refine qK (kZ rfl rfl (by first | exact zG ⟨by omega, by omega⟩ | rfl)) rfl rfl rfl ?_
            refine qK (opV_quo rfl rfl (by first | decide | omega) (quo8 (by omega))) rfl rfl rfl ?_
            refine qK (qY rfl) rfl rfl rfl ?_
            refine kU (F := vI) hs en37 rfl (fun w' h => srcNext _ (by first | omega | assumption | (unfold In64; omega) | decide) w' h) rfl rfl ?_; intro r49 hr49
            have br49 := srcR_b hr49 (by first | decide | omega)
            refine qK (yJ rfl rfl (hi8 br44 br49)) rfl rfl rfl ?_
            refine qK (qH fa87_4 rfl) rfl rfl rfl ?_
            refine zZ 5 ty2 rfl rfl rfl rfl rfl rfl rfl rfl ?_
            refine qK (qH fa87_5 rfl) rfl rfl rfl ?_
            refine zZ 5 ty2 rfl rfl rfl rfl rfl rfl rfl rfl ?_
            refine qU ?_
            refine qV ?_
            refine qQ ?_
            refine qJ ?_
            refine qZ ?_
            refine qK (zQ 5 ty87 rfl rfl rfl) rfl rfl rfl ?_
            refine zZ 4 ty87 rfl rfl rfl rfl rfl rfl rfl rfl ?_
            refine qU ?_
            refine qQ ?_
            refine yU ?_
            refine zH (rs := [.cell 4 87]) rfl (resC (yY 4 rfl rfl ty87 rfl) (resN)) ?_
            subst_vars; rfl
end Go.Proofs.YtnlnbnjnapofmaaGreat
namespace Go.Proofs.YtnlnbnjnapofmaaGreat
open Go.Sx
theorem ze26 : zeroIs Tryz.prog 26 (.agg #[.slice none 0 0, .slice none 0 0]) := by unfold zeroIs; kernel_rfl
theorem fa26_0 : fieldB Tryz.prog 26 0 0 = true := by kernel_rfl
theorem ty23 : tyB Tryz.prog 23 false 1 = true := by kernel_rfl
theorem en65 : Enters Tryz.prog 65 := yW Tryz.func65 (by kernel_rfl) (by kernel_rfl)
theorem sl23 : slcB Tryz.prog 23 87 12 = true := by kernel_rfl
theorem app23 : appB Tryz.prog 23 87 12 104 = true := by kernel_rfl
theorem fa26_1 : fieldB Tryz.prog 26 1 1 = true := by kernel_rfl
theorem ty24 : tyB Tryz.prog 24 false 1 = true := by kernel_rfl
theorem la114 : layoutOf Tryz.prog 114 = some ([.int .i64 0, .int .i64 0, .int .i64 0, .int .i64 0, .int .i64 0], [(0, 1), (1, 1), (2, 3)]) := by kernel_rfl
theorem sl24 : slcB Tryz.prog 24 114 5 = true := by kernel_rfl
theorem ze114 : zeroIs Tryz.prog 114 (.agg #[.int .i64 0, .int .i64 0, .int .i64 0, .int .i64 0, .int .i64 0]) := by unfold zeroIs; kernel_rfl
theorem app24 : appB Tryz.prog 24 114 5 40 = true := by kernel_rfl
theorem ty26 : tyB Tryz.prog 26 true 2 = true := by kernel_rfl
theorem own_capK {m e sz cap k : Nat} {a : Option Addr} {ys : List Value} {w : World} (h : OwnF m e sz a cap k ys w) : k ≤ cap := by
  rcases h.2 with ⟨h1, h2⟩ | ⟨gg, cp, cur, hv, _, _, hc, _⟩
  · omega
  · simp only [Value.slice.injEq] at hv
    omega
theorem inc_nat {k : Nat} (h : k ≤ 1000000) : IntKind.i64.wrap ((k : Int) + 1) = ((k + 1 : Nat) : Int) := by
  refine (zG ?_).trans ?_ <;> omega
theorem dec_rem {n k : Nat} (hn : n ≤ 1000) (h : k < n) : IntKind.i64.wrap (((n - k : Nat) : Int) - 1) = ((n - (k + 1) : Nat) : Int) := by
  refine (zG ?_).trans ?_ <;> omega
theorem mkRobot {b : Nat} {sl : Value} {L : List Int} {i : Nat} (w : World) (hs : Src w b sl L i) : Calls Tryz.prog 35 [.pointer (some ⟨b, 0, none⟩)].toArray w (RetsF (X := (Option Addr × Nat) × (Option Addr × Nat)) (fun x => nJ L i ≤ x.1.2 ∧ nM L i ≤ x.2.2) (fun x => .agg #[.slice x.1.1 (nJ L i) x.1.2, .slice x.2.1 (nM L i) x.2.2]) (fun x w => SlcIs 12 x.1.1 ((jsOf L i (nJ L i)).1.map jc) w ∧ SlcIs 5 x.2.1 ((msOf L i (nM L i)).map mc) w) (srcW w b sl L (robQ L i))) := by
  refine calls_src (n := 49) hs Tryz.func35 rfl rfl rfl ?_
  refine qJ ?_
  refine qZ ?_
  refine jZ 2 ze26 rfl rfl rfl ?_; intro b2
  refine qU ?_
  refine qQ ?_
  refine qJ ?_
  refine qZ ?_
  refine jZ 3 ze26 rfl rfl rfl ?_; intro b3
  refine qU ?_
  refine qQ ?_
  refine qJ ?_
  refine doC_ownA 100 87 12 ?_
  refine doC_ownA 101 114 5 ?_
  have hn := nJ_b L i
  have hm := nM_b L i
  refine qZ ?_
  refine qK (qY rfl) rfl rfl rfl ?_
  refine kU (F := vI) hs en37 rfl (fun w' h => srcNext _ (by first | omega | assumption | (unfold In64; omega) | decide) w' h) rfl rfl ?_; intro r8 hr8
  have br8 := srcR_b hr8 (by first | decide | omega)
  refine qK (yJ rfl rfl (by first | exact zG ⟨by omega, by omega⟩ | rfl)) rfl rfl rfl ?_
  refine qK (qW rfl) rfl rfl rfl ?_
  refine qU ?_
  refine qQ ?_
  refine qJ ?_
  refine qJ ?_
  refine qZ ?_
  refine qK (qW rfl) rfl rfl rfl ?_
  refine qU ?_
  refine qQ ?_
  refine zK ?_
  refine doC_loopK [0, 2, 3, 4] [2] (α := Nat × Option Addr × Nat) (fun x => nJ L i - x.1) (fun x => x.1 ≤ nJ L i) (fun x => srcB ⟨w, [(101, ownD none, OwnF 0 114 5 none 0 0 []), (100, ownD x.2.1, OwnF 0 87 12 x.2.1 x.2.2 x.1 (jsC L i x.1))]⟩ b sl L (jsOf L i x.1).2) (fun x => [(5, .int .i64 (x.1 : Int))]) (fun x => [(3, b3, [.slice x.2.1 x.1 x.2.2, .slice none 0 0], 26)]) (0, none, 0) rfl rfl ?_ ?_ ?_ ?_ rfl ?_
  ·
    exact Nat.zero_le _
  ·
    exact rfl
  ·
    repeat' first | exact trivial | exact True.intro | refine ⟨rfl, ?_⟩
  ·
    repeat' first | exact trivial | exact True.intro | refine ⟨rfl, ?_⟩
  rintro ⟨k, a, cap⟩ hk
  dsimp only at hk ⊢
  refine qJ ?_
  refine qJ ?_
  refine qZ ?_
  refine qK (qY rfl) rfl rfl rfl ?_
  refine qK (qY rfl) rfl rfl rfl ?_
  refine qK (yK rfl rfl) rfl rfl rfl ?_
  refine qU ?_
  refine qQ ?_
  refine jG rfl (fun hc12 => ?_) (fun hc12 => ?_)
  ·
    have h2 : k < nJ L i := by have := of_decide_eq_true hc12; omega
    refine zU ?_
    refine qQ ?_
    refine qJ ?_
    refine zK ?_
    refine doC_srcA 6 [4] hs mo (by kernel_rfl) ?_
    simp only [List.take_succ_cons, List.take_zero, List.drop_succ_cons, List.drop_zero]
    refine doM_v (fun _ => qH fa26_0 rfl) rfl rfl rfl rfl ?_
    refine doM_v (fun _ => zJ 3 ty23 rfl rfl rfl) rfl rfl rfl rfl ?_
    refine doM_v (fun _ => qY rfl) rfl rfl rfl rfl ?_
    refine doM_v (fun _ => qY rfl) rfl rfl rfl rfl ?_
    refine doM_srcA (F := jv) hs en65 rfl (fun w' h => mkJoint _ (by first | omega | assumption | (unfold In64; omega) | decide) w' h) rfl rfl rfl ?_; intro r19 hr19
    refine doM_bslice (famA hs _) sl23 ze87 rfl rfl rfl rfl rfl rfl rfl rfl rfl rfl ?_
    refine doM_nil ?_
    refine tail_row ?_; intro bb20
    refine tail_appendA 100 app23 rfl rfl rfl rfl rfl rfl (by omega) (by omega) rfl rfl ?_; intro a21 c21 R21 hR21
    obtain rfl := Option.some.inj hR21
    refine qK (qH fa26_0 rfl) rfl rfl rfl ?_
    refine zZ 3 ty23 rfl rfl rfl rfl rfl rfl rfl rfl ?_
    refine qU ?_
    refine qV ?_
    refine qQ ?_
    refine qZ ?_
    refine qK (qY rfl) rfl rfl rfl ?_
    refine qK (yJ rfl rfl (inc_nat (by omega))) rfl rfl rfl ?_
    refine qK (qW rfl) rfl rfl rfl ?_
    refine qU ?_
    refine post_again (k + 1, a21, c21) (by show k + 1 ≤ _; omega) (by show nJ L i - (k + 1) < nJ L i - k; omega) (by dsimp only; rw [jsC_succ, ← hr19]; rfl) ?_ ?_ rfl
    repeat' first | exact trivial | exact True.intro | refine ⟨rfl, ?_⟩
  ·
    obtain rfl : k = nJ L i := by have := of_decide_eq_false hc12; omega
    refine kH ?_
    refine zX ?_
    refine zX ?_
    refine yH ?_
    refine qQ ?_
    refine qJ ?_
    refine qJ ?_
    refine qZ ?_
    refine qK (qY rfl) rfl rfl rfl ?_
    refine kU (F := vI) hs en37 rfl (fun w' h => srcNext _ (by first | omega | assumption | (unfold In64; omega) | decide) w' h) rfl rfl ?_; intro r24 hr24
    have br24 := srcR_b hr24 (by first | decide | omega)
    obtain rfl : r24 = ((nM L i : Nat) : Int) := by rw [hr24]; exact hm.2.symm
    refine qK (qW rfl) rfl rfl rfl ?_
    refine qU ?_
    refine qQ ?_
    refine zK ?_
    refine doC_loopK [0, 2, 3, 4] [2] (α := Nat × Option Addr × Nat) (fun x => nM L i - x.1) (fun x => x.1 ≤ nM L i) (fun x => srcB ⟨w, [(101, ownD x.2.1, OwnF 0 114 5 x.2.1 x.2.2 x.1 (msC L i x.1)), (100, ownD a, OwnF 0 87 12 a cap (nJ L i) (jsC L i (nJ L i)))]⟩ b sl L (mQ L i + 1 + 4 * x.1)) (fun x => [(6, .int .i64 ((nM L i - x.1 : Nat) : Int))]) (fun x => [(3, b3, [.slice a (nJ L i) cap, .slice x.2.1 x.1 x.2.2], 26)]) (0, none, 0) rfl rfl ?_ ?_ ?_ ?_ rfl ?_
    ·
      exact Nat.zero_le _
    ·
      exact rfl
    ·
      repeat' first | exact trivial | exact True.intro | refine ⟨rfl, ?_⟩
    ·
      repeat' first | exact trivial | exact True.intro | refine ⟨rfl, ?_⟩
    rintro ⟨k2, a2, cap2⟩ hk2
    dsimp only at hk2 ⊢
    refine qJ ?_
    refine qJ ?_
    refine qZ ?_
    refine qK (qY rfl) rfl rfl rfl ?_
    refine qK (opV_gtr rfl rfl) rfl rfl rfl ?_
    refine qU ?_
    refine qQ ?_
    refine jG rfl (fun hc26 => ?_) (fun hc26 => ?_)
    ·
      have h3 : k2 < nM L i := by have := of_decide_eq_true hc26; omega
      refine zU ?_
      refine qQ ?_
      refine qJ ?_
      refine zK ?_
      refine doC_srcA 17 [4, 6, 9, 12] hs mo (by kernel_rfl) ?_
      simp only [List.take_succ_cons, List.take_zero, List.drop_succ_cons, List.drop_zero]
      refine doM_v (fun _ => qH fa26_1 rfl) rfl rfl rfl rfl ?_
      refine doM_v (fun _ => zJ 3 ty24 rfl rfl rfl) rfl rfl rfl rfl ?_
      refine doM_v (fun _ => qY rfl) rfl rfl rfl rfl ?_
      refine doM_v (fun _ => qY rfl) rfl rfl rfl rfl ?_
      refine doM_srcA (F := vI) hs en37 rfl (fun w' h => srcNext _ (by first | omega | assumption | (unfold In64; omega) | decide) w' h) rfl rfl rfl ?_; intro r33 hr33
      have br33 := srcR_b hr33 (by first | decide | omega)
      refine doM_v (fun _ => qY rfl) rfl rfl rfl rfl ?_
      refine doM_srcA (F := vI) hs en37 rfl (fun w' h => srcNext _ (by first | omega | assumption | (unfold In64; omega) | decide) w' h) rfl rfl rfl ?_; intro r35 hr35
      have br35 := srcR_b hr35 (by first | decide | omega)
      refine doM_v (fun _ => yJ rfl rfl (by first | exact zG ⟨by omega, by omega⟩ | rfl)) rfl rfl rfl rfl ?_
      refine doM_v (fun _ => qY rfl) rfl rfl rfl rfl ?_
      refine doM_srcA (F := vI) hs en38 rfl (fun w' h => srcSigned _ (by first | omega | assumption | (unfold In64; omega) | decide) w' h) rfl rfl rfl ?_; intro r38 hr38
      have br38 := srcS_b hr38 (by first | decide | omega)
      refine doM_v (fun _ => kZ rfl rfl (by first | exact zG ⟨by omega, by omega⟩ | rfl)) rfl rfl rfl rfl ?_
      refine doM_v (fun _ => qY rfl) rfl rfl rfl rfl ?_
      refine doM_srcA (F := vI) hs en38 rfl (fun w' h => srcSigned _ (by first | omega | assumption | (unfold In64; omega) | decide) w' h) rfl rfl rfl ?_; intro r41 hr41
      have br41 := srcS_b hr41 (by first | decide | omega)
      refine doM_v (fun _ => kZ rfl rfl (by first | exact zG ⟨by omega, by omega⟩ | rfl)) rfl rfl rfl rfl ?_
      refine doM_v (fun _ => jV la29 rfl rfl) rfl rfl rfl rfl ?_
      refine doM_v (fun _ => jV la114 rfl rfl) rfl rfl rfl rfl ?_
      refine doM_bslice (famA hs _) sl24 ze114 rfl rfl rfl rfl rfl rfl rfl rfl rfl rfl ?_
      refine doM_nil ?_
      refine tail_row ?_; intro bb45
      refine tail_appendA 101 app24 rfl rfl rfl rfl rfl rfl (by omega) (by omega) rfl rfl ?_; intro a46 c46 R46 hR46
      obtain rfl := Option.some.inj hR46
      refine qK (qH fa26_1 rfl) rfl rfl rfl ?_
      refine zZ 3 ty24 rfl rfl rfl rfl rfl rfl rfl rfl ?_
      refine qU ?_
      refine qV ?_
      refine qQ ?_
      refine qZ ?_
      refine qK (qY rfl) rfl rfl rfl ?_
      refine qK (opV_sub rfl rfl (dec_rem (by omega) h3)) rfl rfl rfl ?_
      refine qK (qW rfl) rfl rfl rfl ?_
      refine qU ?_
      refine post_again (k2 + 1, a46, c46) (by show k2 + 1 ≤ _; omega) (by show nM L i - (k2 + 1) < nM L i - k2; omega) (by dsimp only; rw [msC_succ, hr33, hr35, hr38, hr41, hr8, hn.2.2]; rfl) ?_ ?_ rfl
      repeat' first | exact trivial | exact True.intro | refine ⟨rfl, ?_⟩
    ·
      obtain rfl : k2 = nM L i := by have := of_decide_eq_false hc26; omega
      refine kH ?_
      refine zX ?_
      refine zX ?_
      refine yH ?_
      refine qQ ?_
      refine qJ ?_
      refine qZ ?_
      refine qK (zQ 3 ty26 rfl rfl rfl) rfl rfl rfl ?_
      refine zZ 2 ty26 rfl rfl rfl rfl rfl rfl rfl rfl ?_
      refine qU ?_
      refine qQ ?_
      refine yU ?_
      refine post_ret (rs := [.cell 2 26]) rfl (resC (yY 2 rfl rfl ty26 rfl) (resN)) rfl ?_
      intro w2 kn
      obtain ⟨_, q2, q3⟩ := kn.facts _ List.mem_cons_self
      obtain ⟨_, q5, q6⟩ := kn.facts _ (List.mem_cons_of_mem _ List.mem_cons_self)
      exact ⟨((a, cap), (a2, cap2)), ⟨own_capK q6, own_capK q3⟩, rfl, kn.grow, told_and ⟨ownD a, slc_dep _ _ _, fun q hq => ⟨(q5 q hq).1, (q5 q hq).2.1⟩, js_slc q6⟩ ⟨ownD a2, slc_dep _ _ _, fun q hq => ⟨(q2 q hq).1, (q2 q hq).2.1⟩, ms_slc q3⟩⟩
end Go.Proofs.YtnlnbnjnapofmaaGreat
namespace Go.Proofs.YtnlnbnjnapofmaaGreat
open Go.Sx
def limK (k : Int) : Int := if k = 1 ∨ k = 2 ∨ k = 3 then 524288 else if k = 4 ∨ k = 5 ∨ k = 6 then 4194304 else 0
theorem cFrom1 (x : Int) (m : Int) (w : World) : Calls Tryz.prog 135 [.int .i64 x, .int .i64 m].toArray w (Rets (vB ((decide (1 ≤ x) && decide (x ≤ m)))) (w)) := by
  refine yQ (n := 12) Tryz.func135 rfl rfl rfl ?_
  refine qJ ?_
  refine qZ ?_
  refine qK (qW rfl) rfl rfl rfl ?_
  refine qU ?_
  refine qQ ?_
  refine qJ ?_
  refine qZ ?_
  refine qK (qY rfl) rfl rfl rfl ?_
  refine qK (opV_leq rfl rfl) rfl rfl rfl ?_
  refine qK (qY rfl) rfl rfl rfl ?_
  refine doL_split 7 rfl (fun hg7 => ?_) (fun hg7 => ?_)
  ·
    refine qK (qY rfl) rfl rfl rfl ?_
    refine qK (qY rfl) rfl rfl rfl ?_
    refine qK (opV_leq rfl rfl) rfl rfl rfl ?_
    refine qK (opV_pick_t rfl rfl rfl rfl) rfl rfl rfl ?_
    refine qK (qW rfl) rfl rfl rfl ?_
    refine qU ?_
    refine qQ ?_
    refine yU ?_
    refine zH (rs := [.tmp 4]) rfl (resC (jU rfl) (resN)) (congrArg (vB) (?_ : _ = (decide (1 ≤ x) && decide (x ≤ m))))
    simp_all
  ·
    refine uZ rfl rfl rfl ?_
    refine uZ rfl rfl rfl ?_
    refine uZ rfl rfl rfl ?_
    refine qK (kV rfl rfl rfl rfl) rfl rfl rfl ?_
    refine qK (qW rfl) rfl rfl rfl ?_
    refine qU ?_
    refine qQ ?_
    refine yU ?_
    refine zH (rs := [.tmp 4]) rfl (resC (jU rfl) (resN)) (congrArg (vB) (?_ : _ = (decide (1 ≤ x) && decide (x ≤ m))))
    simp_all; omega
theorem cLimit (k : Int) (w : World) : Calls Tryz.prog 134 [.int .i64 k].toArray w (Rets (vI (limK k)) (w)) := by
  refine yQ (n := 12) Tryz.func134 rfl rfl rfl ?_
  refine qJ ?_
  refine qZ ?_
  refine qK (qW rfl) rfl rfl rfl ?_
  refine qU ?_
  refine qQ ?_
  refine qJ ?_
  refine qJ ?_
  refine qZ ?_
  refine qK (qY rfl) rfl rfl rfl ?_
  refine qU ?_
  refine qQ ?_
  refine zK ?_
  refine qJ ?_
  refine qJ ?_
  refine qZ ?_
  refine qK (uU rfl rfl) rfl rfl rfl ?_
  refine qK (qW rfl) rfl rfl rfl ?_
  refine qU ?_
  refine qQ ?_
  refine jG rfl (fun hc4 => ?_) (fun hc4 => ?_)
  ·
    have e := of_decide_eq_true hc4
    refine zU ?_
    refine qQ ?_
    refine zV rfl (hc4) ?_
    refine qJ ?_
    refine qZ ?_
    refine qK (qW rfl) rfl rfl rfl ?_
    refine qU ?_
    refine qQ ?_
    refine yU ?_
    refine kJ ?_
    refine kQ ?_
    refine zH (rs := [.tmp 2]) rfl (resC (jU rfl) (resN)) (congrArg (vI) (?_ : _ = limK k))
    unfold limK; split <;> (try split) <;> omega
  ·
    have e := of_decide_eq_false hc4
    refine qJ ?_
    refine qZ ?_
    refine qK (uU rfl rfl) rfl rfl rfl ?_
    refine qK (qW rfl) rfl rfl rfl ?_
    refine qU ?_
    refine qQ ?_
    refine jG rfl (fun hc4_2 => ?_) (fun hc4_2 => ?_)
    ·
      have e := of_decide_eq_true hc4_2
      refine zU ?_
      refine qQ ?_
      refine zV rfl (hc4_2) ?_
      refine qJ ?_
      refine qZ ?_
      refine qK (qW rfl) rfl rfl rfl ?_
      refine qU ?_
      refine qQ ?_
      refine yU ?_
      refine kJ ?_
      refine kQ ?_
      refine zH (rs := [.tmp 2]) rfl (resC (jU rfl) (resN)) (congrArg (vI) (?_ : _ = limK k))
      unfold limK; split <;> (try split) <;> omega
    ·
      have e := of_decide_eq_false hc4_2
      refine qZ ?_
      refine qK (uU rfl rfl) rfl rfl rfl ?_
      refine qK (qW rfl) rfl rfl rfl ?_
      refine qU ?_
      refine qQ ?_
      refine jG rfl (fun hc4_3 => ?_) (fun hc4_3 => ?_)
      ·
        have e := of_decide_eq_true hc4_3
        refine qJ ?_
        refine qZ ?_
        refine qK (qW rfl) rfl rfl rfl ?_
        refine qU ?_
        refine qQ ?_
        refine yU ?_
        refine kJ ?_
        refine kQ ?_
        refine zH (rs := [.tmp 2]) rfl (resC (jU rfl) (resN)) (congrArg (vI) (?_ : _ = limK k))
        unfold limK; split <;> (try split) <;> omega
      ·
        have e := of_decide_eq_false hc4_3
        refine qJ ?_
        refine qJ ?_
        refine qZ ?_
        refine qK (uU rfl rfl) rfl rfl rfl ?_
        refine qK (qW rfl) rfl rfl rfl ?_
        refine qU ?_
        refine qQ ?_
        refine jG rfl (fun hc8 => ?_) (fun hc8 => ?_)
        ·
          have e := of_decide_eq_true hc8
          refine zU ?_
          refine qQ ?_
          refine zV rfl (hc8) ?_
          refine qJ ?_
          refine qZ ?_
          refine qK (qW rfl) rfl rfl rfl ?_
          refine qU ?_
          refine qQ ?_
          refine yU ?_
          refine kJ ?_
          refine kQ ?_
          refine zH (rs := [.tmp 2]) rfl (resC (jU rfl) (resN)) (congrArg (vI) (?_ : _ = limK k))
          unfold limK; split <;> (try split) <;> omega
        ·
          have e := of_decide_eq_false hc8
          refine qJ ?_
          refine qZ ?_
          refine qK (uU rfl rfl) rfl rfl rfl ?_
          refine qK (qW rfl) rfl rfl rfl ?_
          refine qU ?_
          refine qQ ?_
          refine jG rfl (fun hc8_2 => ?_) (fun hc8_2 => ?_)
          ·
            have e := of_decide_eq_true hc8_2
            refine zU ?_
            refine qQ ?_
            refine zV rfl (hc8_2) ?_
            refine qJ ?_
            refine qZ ?_
            refine qK (qW rfl) rfl rfl rfl ?_
            refine qU ?_
            refine qQ ?_
            refine yU ?_
            refine kJ ?_
            refine kQ ?_
            refine zH (rs := [.tmp 2]) rfl (resC (jU rfl) (resN)) (congrArg (vI) (?_ : _ = limK k))
            unfold limK; split <;> (try split) <;> omega
          ·
            have e := of_decide_eq_false hc8_2
            refine qZ ?_
            refine qK (uU rfl rfl) rfl rfl rfl ?_
            refine qK (qW rfl) rfl rfl rfl ?_
            refine qU ?_
            refine qQ ?_
            refine jG rfl (fun hc8_3 => ?_) (fun hc8_3 => ?_)
            ·
              have e := of_decide_eq_true hc8_3
              refine qJ ?_
              refine qZ ?_
              refine qK (qW rfl) rfl rfl rfl ?_
              refine qU ?_
              refine qQ ?_
              refine yU ?_
              refine kJ ?_
              refine kQ ?_
              refine zH (rs := [.tmp 2]) rfl (resC (jU rfl) (resN)) (congrArg (vI) (?_ : _ = limK k))
              unfold limK; split <;> (try split) <;> omega
            ·
              have e := of_decide_eq_false hc8_3
              refine zU ?_
              refine qV ?_
              refine qQ ?_
              refine qJ ?_
              refine qZ ?_
              refine qK (qW rfl) rfl rfl rfl ?_
              refine qU ?_
              refine qQ ?_
              refine yU ?_
              refine zH (rs := [.tmp 2]) rfl (resC (jU rfl) (resN)) (congrArg (vI) (?_ : _ = limK k))
              unfold limK; split <;> (try split) <;> omega
theorem ix3_0 {p0 p1 p2 : Int} : ∀ w : World, (Instr.index 29 (.agg #[.int .i64 p0, .int .i64 p1, .int .i64 p2]) (.int .i64 0)).run Tryz.prog w = .ok (.int .i64 p0) w := fun w => by kernel_rfl
theorem ix3_1 {p0 p1 p2 : Int} : ∀ w : World, (Instr.index 29 (.agg #[.int .i64 p0, .int .i64 p1, .int .i64 p2]) (.int .i64 1)).run Tryz.prog w = .ok (.int .i64 p1) w := fun w => by kernel_rfl
theorem ix3_2 {p0 p1 p2 : Int} : ∀ w : World, (Instr.index 29 (.agg #[.int .i64 p0, .int .i64 p1, .int .i64 p2]) (.int .i64 2)).run Tryz.prog w = .ok (.int .i64 p2) w := fun w => by kernel_rfl
theorem cBeyond (p0 p1 p2 : Int) (h0 : -4194304 ≤ p0 ∧ p0 ≤ 4194304) (h1 : -4194304 ≤ p1 ∧ p1 ≤ 4194304) (h2 : -4194304 ≤ p2 ∧ p2 ≤ 4194304) (w : World) : Calls Tryz.prog 133 [.agg #[.int .i64 p0, .int .i64 p1, .int .i64 p2]].toArray w (Rets (vB (false)) (w)) := by
  refine yQ (n := 16) Tryz.func133 rfl rfl rfl ?_
  refine qJ ?_
  refine qZ ?_
  refine kK 1 rfl rfl rfl rfl ?_; intro b1
  refine qK (qW rfl) rfl rfl rfl ?_
  refine qU ?_
  refine qQ ?_
  refine qJ ?_
  refine qJ ?_
  refine qZ ?_
  refine qK (zQ 1 ty29 rfl rfl rfl) rfl rfl rfl ?_
  refine qK (qY rfl) rfl rfl rfl ?_
  refine qU ?_
  refine qQ ?_
  refine zK ?_
  refine kX 4 ?_
  refine yZ ?_
  refine qJ ?_
  refine qZ ?_
  refine qK (yK rfl rfl) rfl rfl rfl ?_
  refine qU ?_
  refine qQ ?_
  refine qJ ?_
  refine zV rfl (by decide) ?_
  refine zU ?_
  refine qQ ?_
  refine qJ ?_
  refine zK ?_
  refine qJ ?_
  refine qZ ?_
  refine qK (opV_index rfl rfl (ix3_0)) rfl rfl rfl ?_
  refine qK (qW rfl) rfl rfl rfl ?_
  refine qU ?_
  refine qQ ?_
  refine qJ ?_
  refine qZ ?_
  refine qK (qY rfl) rfl rfl rfl ?_
  refine qK (yK rfl rfl) rfl rfl rfl ?_
  refine qK (qY rfl) rfl rfl rfl ?_
  refine doL_false 11 rfl (by rw [decide_eq_false_iff_not]; omega) ?_
  refine qK (qY rfl) rfl rfl rfl ?_
  refine qK (opV_gtr rfl rfl) rfl rfl rfl ?_
  refine qK (kV rfl rfl rfl rfl) rfl rfl rfl ?_
  refine qU ?_
  refine qQ ?_
  refine jW rfl (by rw [decide_eq_false_iff_not]; omega) ?_
  refine zU ?_
  refine qV ?_
  refine qQ ?_
  refine qZ ?_
  refine qK (yJ rfl rfl (by first | exact zG ⟨by omega, by omega⟩ | rfl)) rfl rfl rfl ?_
  refine qK (qY rfl) rfl rfl rfl ?_
  refine qU ?_
  refine zW ?_
  refine yZ ?_
  refine qJ ?_
  refine qZ ?_
  refine qK (yK rfl rfl) rfl rfl rfl ?_
  refine qU ?_
  refine qQ ?_
  refine qJ ?_
  refine zV rfl (by decide) ?_
  refine zU ?_
  refine qQ ?_
  refine qJ ?_
  refine zK ?_
  refine qJ ?_
  refine qZ ?_
  refine qK (opV_index rfl rfl (ix3_1)) rfl rfl rfl ?_
  refine qK (qW rfl) rfl rfl rfl ?_
  refine qU ?_
  refine qQ ?_
  refine qJ ?_
  refine qZ ?_
  refine qK (qY rfl) rfl rfl rfl ?_
  refine qK (yK rfl rfl) rfl rfl rfl ?_
  refine qK (qY rfl) rfl rfl rfl ?_
  refine doL_false 11 rfl (by rw [decide_eq_false_iff_not]; omega) ?_
  refine qK (qY rfl) rfl rfl rfl ?_
  refine qK (opV_gtr rfl rfl) rfl rfl rfl ?_
  refine qK (kV rfl rfl rfl rfl) rfl rfl rfl ?_
  refine qU ?_
  refine qQ ?_
  refine jW rfl (by rw [decide_eq_false_iff_not]; omega) ?_
  refine zU ?_
  refine qV ?_
  refine qQ ?_
  refine qZ ?_
  refine qK (yJ rfl rfl (by first | exact zG ⟨by omega, by omega⟩ | rfl)) rfl rfl rfl ?_
  refine qK (qY rfl) rfl rfl rfl ?_
  refine qU ?_
  refine zW ?_
  refine yZ ?_
  refine qJ ?_
  refine qZ ?_
  refine qK (yK rfl rfl) rfl rfl rfl ?_
  refine qU ?_
  refine qQ ?_
  refine qJ ?_
  refine zV rfl (by decide) ?_
  refine zU ?_
  refine qQ ?_
  refine qJ ?_
  refine zK ?_
  refine qJ ?_
  refine qZ ?_
  refine qK (opV_index rfl rfl (ix3_2)) rfl rfl rfl ?_
  refine qK (qW rfl) rfl rfl rfl ?_
  refine qU ?_
  refine qQ ?_
  refine qJ ?_
  refine qZ ?_
  refine qK (qY rfl) rfl rfl rfl ?_
  refine qK (yK rfl rfl) rfl rfl rfl ?_
  refine qK (qY rfl) rfl rfl rfl ?_
  refine doL_false 11 rfl (by rw [decide_eq_false_iff_not]; omega) ?_
  refine qK (qY rfl) rfl rfl rfl ?_
  refine qK (opV_gtr rfl rfl) rfl rfl rfl ?_
  refine qK (kV rfl rfl rfl rfl) rfl rfl rfl ?_
  refine qU ?_
  refine qQ ?_
  refine jW rfl (by rw [decide_eq_false_iff_not]; omega) ?_
  refine zU ?_
  refine qV ?_
  refine qQ ?_
  refine qZ ?_
  refine qK (yJ rfl rfl (by first | exact zG ⟨by omega, by omega⟩ | rfl)) rfl rfl rfl ?_
  refine qK (qY rfl) rfl rfl rfl ?_
  refine qU ?_
  refine zW ?_
  refine yZ ?_
  refine qJ ?_
  refine qZ ?_
  refine qK (yK rfl rfl) rfl rfl rfl ?_
  refine qU ?_
  refine qQ ?_
  refine qJ ?_
  refine jW rfl (by decide) ?_
  refine kH ?_
  refine zX ?_
  refine zX ?_
  refine yH ?_
  refine qQ ?_
  refine qJ ?_
  refine qZ ?_
  refine qK (qW rfl) rfl rfl rfl ?_
  refine qU ?_
  refine qQ ?_
  refine yU ?_
  refine zH (rs := [.tmp 2]) rfl (resC (jU rfl) (resN)) (congrArg (vB) (?_ : _ = false))
  rfl
end Go.Proofs.YtnlnbnjnapofmaaGreat
namespace Go.Proofs.YtnlnbnjnapofmaaGreat
open Go.Sx
theorem sl34 : slcB Tryz.prog 34 88 2 = true := by kernel_rfl
theorem en156 : Enters Tryz.prog 156 := yW Tryz.func156 (by kernel_rfl) (by kernel_rfl)
theorem en138 : Enters Tryz.prog 138 := yW Tryz.func138 (by kernel_rfl) (by kernel_rfl)
theorem isBox1 (a0 a1 : Int) (w : World) : Calls Tryz.prog 139 [.agg #[.int .i64 a0, .int .i64 a1]].toArray w (Rets (vB ((!(Iv.valid (⟨a0, a1⟩ : Iv))))) (w)) := by
  refine yQ (n := 6) Tryz.func139 rfl rfl rfl ?_
  refine qJ ?_
  refine qZ ?_
  refine kK 1 rfl rfl rfl rfl ?_; intro b1
  refine qK (qW rfl) rfl rfl rfl ?_
  refine qU ?_
  refine qQ ?_
  refine qJ ?_
  refine qZ ?_
  refine qK (zQ 1 ty88 rfl rfl rfl) rfl rfl rfl ?_
  refine kY (F := vB) (zY en137 rfl (fun w _ => iValid _ _  w)) rfl rfl rfl ?_; intro r4 hr4
  refine qK (opV_not rfl) rfl rfl rfl ?_
  refine qK (qW rfl) rfl rfl rfl ?_
  refine qU ?_
  refine qQ ?_
  refine yU ?_
  refine zH (rs := [.tmp 2]) rfl (resC (jU rfl) (resN)) (congrArg (vB) (?_ : _ = (!(Iv.valid (⟨a0, a1⟩ : Iv)))))
  subst_vars; rfl
theorem en_ib : Enters Tryz.prog 139 := yW Tryz.func139 (by kernel_rfl) (by kernel_rfl)
theorem ixIv  (ab : Option Addr) (cb n : Nat) (bx : List Iv) (hn : n ≤ 1000) (hbn : bx.length = n) (hv : ∀ a ∈ bx, Iv.valid a = true) (w : World) (hT : SlcIs 2 ab (bx.map ivc) w) : Calls Tryz.prog 156 [.slice ab n cb, .func (.func 139) #[] #[]].toArray w (Rets (vI (-1)) (w)) := by
  refine yQ (n := 19) Tryz.func156 rfl rfl rfl ?_
  refine qJ ?_
  refine qZ ?_
  refine qK (qW rfl) rfl rfl rfl ?_
  refine qU ?_
  refine qQ ?_
  refine qJ ?_
  refine qJ ?_
  refine qZ ?_
  refine qK (qY rfl) rfl rfl rfl ?_
  refine qK (opV_len_slice sl34 rfl) rfl rfl rfl ?_
  refine qK (qY rfl) rfl rfl rfl ?_
  refine qU ?_
  refine qQ ?_
  refine zK ?_
  refine doC_loopK [0, 1, 7] [] (α := Nat) (fun x => n - x) (fun x => x ≤ n) (fun _ => ⟨w, []⟩) (fun x => [(8, .int .i64 (x : Int))]) (fun _ => []) 0 rfl rfl ?_ ?_ ?_ ?_ rfl ?_
  ·
    exact Nat.zero_le _
  ·
    exact rfl
  ·
    repeat' first | exact trivial | exact True.intro | refine ⟨rfl, ?_⟩
  ·
    repeat' first | exact trivial | exact True.intro | refine ⟨rfl, ?_⟩
  rintro k hk
  try dsimp only at hk ⊢
  refine qJ ?_
  refine qZ ?_
  refine qK (yK rfl rfl) rfl rfl rfl ?_
  refine qU ?_
  refine qQ ?_
  refine qJ ?_
  refine jG rfl (fun hc9 => ?_) (fun hc9 => ?_)
  ·
    have h2 : k < n := by have := of_decide_eq_true hc9; omega
    obtain ⟨a, hak⟩ : ∃ a, bx[k]? = some a := ⟨_, List.getElem?_eq_getElem (by omega)⟩
    have ha : (bx.map ivc)[k]? = some (ivc a) := by rw [List.getElem?_map, hak]; rfl
    have hva := hv a (List.mem_of_getElem? hak)
    refine zU ?_
    refine qQ ?_
    refine qJ ?_
    refine zK ?_
    refine qJ ?_
    refine qZ ?_
    refine qK (qY rfl) rfl rfl rfl ?_
    refine qK (qW rfl) rfl rfl rfl ?_
    refine qU ?_
    refine qQ ?_
    refine qJ ?_
    refine qZ ?_
    refine qK (qY rfl) rfl rfl rfl ?_
    refine qK (qY rfl) rfl rfl rfl ?_
    refine qK (qY rfl) rfl rfl rfl ?_
    refine qK (opV_indexS (e := 88) (holds_base hT) (by kernel_rfl) rfl rfl rfl ha h2) rfl rfl rfl ?_
    refine qK (opV_loadSA (vs := [.int .i64 a.lo, .int .i64 a.hi]) k 0 (holds_base hT) ha ty88 rfl rfl) rfl rfl rfl ?_
    refine kY (F := vB) (opV_callV en_ib rfl rfl rfl (fun w _ => isBox1 _ _ w)) rfl rfl rfl ?_; intro r16 hr16
    refine qU ?_
    refine qQ ?_
    refine jW rfl (by rw [hr16]; exact congrArg not hva) ?_
    refine zU ?_
    refine qV ?_
    refine qQ ?_
    refine qZ ?_
    refine qK (yJ rfl rfl (inc_nat (by omega))) rfl rfl rfl ?_
    refine qK (qY rfl) rfl rfl rfl ?_
    refine qU ?_
    refine post_again (k + 1) (by show k + 1 ≤ n; omega) (by show n - (k + 1) < n - k; omega) rfl ?_ ?_ rfl
    repeat' first | exact trivial | exact True.intro | refine ⟨rfl, ?_⟩
  ·
    refine kH ?_
    refine zX ?_
    refine zX ?_
    refine yH ?_
    refine qQ ?_
    refine qJ ?_
    refine qZ ?_
    refine qK (qW rfl) rfl rfl rfl ?_
    refine qU ?_
    refine qQ ?_
    refine yU ?_
    refine zH (rs := [.tmp 4]) rfl (resC (jU rfl) (resN)) (congrArg (vI) (?_ : _ = -1))
    rfl
theorem hasIv  (ab : Option Addr) (cb n : Nat) (bx : List Iv) (hn : n ≤ 1000) (hbn : bx.length = n) (hv : ∀ a ∈ bx, Iv.valid a = true) (w : World) (hT : SlcIs 2 ab (bx.map ivc) w) : Calls Tryz.prog 138 [.slice ab n cb, .func (.func 139) #[] #[]].toArray w (Rets (vB (false)) (w)) := by
  refine yQ (n := 9) Tryz.func138 rfl rfl rfl ?_
  refine qJ ?_
  refine qZ ?_
  refine qK (qW rfl) rfl rfl rfl ?_
  refine qU ?_
  refine qQ ?_
  refine qJ ?_
  refine qZ ?_
  refine qK (qY rfl) rfl rfl rfl ?_
  refine qK (qY rfl) rfl rfl rfl ?_
  refine kY (F := vI) (zY en156 rfl (fun w' k => ixIv ab cb n bx hn hbn hv w' (slc_grow hT k.grow))) rfl rfl rfl ?_; intro r7 hr7
  refine qK (opV_geq rfl rfl) rfl rfl rfl ?_
  refine qK (qW rfl) rfl rfl rfl ?_
  refine qU ?_
  refine qQ ?_
  refine yU ?_
  refine zH (rs := [.tmp 4]) rfl (resC (jU rfl) (resN)) (congrArg (vB) (?_ : _ = false))
  rw [hr7]; rfl
theorem kIsBox  (aj am ab : Option Addr) (cj nm cm cb n : Nat) (bx : List Iv) (hn : n ≤ 1000) (hbn : bx.length = n) (hv : ∀ a ∈ bx, Iv.valid a = true) (w : World) (hT : SlcIs 2 ab (bx.map ivc) w) : Calls Tryz.prog 104 [.agg #[.slice aj n cj, .slice am nm cm], .slice ab n cb].toArray w (Rets (vB (true)) (w)) := by
  refine yQ (n := 16) Tryz.func104 rfl rfl rfl ?_
  refine qJ ?_
  refine qZ ?_
  refine kK 2 rfl rfl rfl rfl ?_; intro b2
  refine qK (qW rfl) rfl rfl rfl ?_
  refine qU ?_
  refine qQ ?_
  refine qJ ?_
  refine qZ ?_
  refine qK (qY rfl) rfl rfl rfl ?_
  refine qK (opV_len_slice sl34 rfl) rfl rfl rfl ?_
  refine qK (qH fa26_0 rfl) rfl rfl rfl ?_
  refine qK (zJ 2 ty23 rfl rfl rfl) rfl rfl rfl ?_
  refine qK (opV_len_slice sl23 rfl) rfl rfl rfl ?_
  refine qK (uU rfl rfl) rfl rfl rfl ?_
  refine qK (qY rfl) rfl rfl rfl ?_
  refine doL_true 11 rfl (decide_eq_true rfl) ?_
  refine qK (qY rfl) rfl rfl rfl ?_
  refine kY (F := vB) (zY en138 rfl (fun w' k => hasIv ab cb n bx hn hbn hv w' (slc_grow hT k.grow))) rfl rfl rfl ?_; intro r13 hr13
  refine qK (opV_not rfl) rfl rfl rfl ?_
  refine qK (opV_pick_t rfl rfl rfl rfl) rfl rfl rfl ?_
  refine qK (qW rfl) rfl rfl rfl ?_
  refine qU ?_
  refine qQ ?_
  refine yU ?_
  refine zH (rs := [.tmp 4]) rfl (resC (jU rfl) (resN)) (congrArg (vB) (?_ : _ = true))
  rw [hr13]; rfl
end Go.Proofs.YtnlnbnjnapofmaaGreat
namespace Go.Proofs.YtnlnbnjnapofmaaGreat
open Go.Sx
theorem fa87_0 : fieldB Tryz.prog 87 0 0 = true := by kernel_rfl
theorem ty9 : tyB Tryz.prog 9 false 1 = true := by kernel_rfl
theorem cFind  (aj am : Option Addr) (cj nm cm n i : Nat) (js : List J) (s : ByteArray) (hn : n ≤ 1000) (hjn : js.length = n) (hin : i < n) (hne : ∀ (k : Nat), k < i → ∀ (j : J), js[k]? = some j → (j.name.toList == s.toList) = false) (hi : ∃ j, js[i]? = some j ∧ (j.name.toList == s.toList) = true) (w : World) (hS : SlcIs 12 aj (js.map jc) w) : Calls Tryz.prog 132 [.agg #[.slice aj n cj, .slice am nm cm], .string s].toArray w (Rets (vI ((i : Int))) (w)) := by
  refine yQ (n := 22) Tryz.func132 rfl rfl rfl ?_
  refine qJ ?_
  refine qZ ?_
  refine kK 2 rfl rfl rfl rfl ?_; intro b2
  refine qK (qW rfl) rfl rfl rfl ?_
  refine qU ?_
  refine qQ ?_
  refine qJ ?_
  refine qJ ?_
  refine qZ ?_
  refine qK (qH fa26_0 rfl) rfl rfl rfl ?_
  refine qK (zJ 2 ty23 rfl rfl rfl) rfl rfl rfl ?_
  refine qK (opV_len_slice sl23 rfl) rfl rfl rfl ?_
  refine qK (qY rfl) rfl rfl rfl ?_
  refine qU ?_
  refine qQ ?_
  refine zK ?_
  refine doC_loopK [1, 2, 8] [2] (α := Nat) (fun x => n - x) (fun x => x ≤ i) (fun _ => ⟨w, []⟩) (fun x => [(9, .int .i64 (x : Int))]) (fun _ => []) 0 rfl rfl ?_ ?_ ?_ ?_ rfl ?_
  ·
    exact Nat.zero_le _
  ·
    exact rfl
  ·
    repeat' first | exact trivial | exact True.intro | refine ⟨rfl, ?_⟩
  ·
    repeat' first | exact trivial | exact True.intro | refine ⟨rfl, ?_⟩
  rintro k hk
  try dsimp only at hk ⊢
  have h2 : k < n := by omega
  obtain ⟨j, hjk⟩ : ∃ j, js[k]? = some j := ⟨_, List.getElem?_eq_getElem (by omega)⟩
  have hj : (js.map jc)[k]? = some (jc j) := by rw [List.getElem?_map, hjk]; rfl
  refine qJ ?_
  refine qZ ?_
  refine qK (yK rfl rfl) rfl rfl rfl ?_
  refine qU ?_
  refine qQ ?_
  refine qJ ?_
  refine zV rfl (decide_eq_true (by omega)) ?_
  refine zU ?_
  refine qQ ?_
  refine qJ ?_
  refine zK ?_
  refine qJ ?_
  refine qZ ?_
  refine qK (qY rfl) rfl rfl rfl ?_
  refine qK (qW rfl) rfl rfl rfl ?_
  refine qU ?_
  refine qQ ?_
  refine qJ ?_
  refine qZ ?_
  refine qK (qH fa26_0 rfl) rfl rfl rfl ?_
  refine qK (zJ 2 ty23 rfl rfl rfl) rfl rfl rfl ?_
  refine qK (qY rfl) rfl rfl rfl ?_
  refine qK (opV_indexS (e := 87) (holds_base hS) (by kernel_rfl) rfl rfl rfl hj h2) rfl rfl rfl ?_
  refine qK (opV_fieldS (holds_base hS) hj fa87_0 rfl) rfl rfl rfl ?_
  refine qK (opV_loadS1 k 0 (holds_base hS) hj ty9 rfl rfl) rfl rfl rfl ?_
  refine qK (qY rfl) rfl rfl rfl ?_
  refine qK (opV_eqlS Tryz.underlying9 rfl rfl) rfl rfl rfl ?_
  refine qU ?_
  refine qQ ?_
  refine jG rfl (fun hc19 => ?_) (fun hc19 => ?_)
  ·
    have e : k = i := by
      rcases Nat.lt_or_ge k i with h | h
      · rw [hne k h j hjk] at hc19; cases hc19
      · omega
    refine qJ ?_
    refine qZ ?_
    refine qK (qY rfl) rfl rfl rfl ?_
    refine qK (qW rfl) rfl rfl rfl ?_
    refine qU ?_
    refine qQ ?_
    refine yU ?_
    refine kJ ?_
    refine kQ ?_
    refine kQ ?_
    refine kJ ?_
    refine kQ ?_
    refine zH (rs := [.tmp 4]) rfl (resC (jU rfl) (resN)) (congrArg (vI) (?_ : _ = (i : Int)))
    rw [e]
  ·
    have e : k ≠ i := fun e => by
      subst e
      obtain ⟨j2, h3, h4⟩ := hi
      rw [hjk] at h3; cases h3
      rw [h4] at hc19; cases hc19
    refine zU ?_
    refine qV ?_
    refine qQ ?_
    refine qZ ?_
    refine qK (yJ rfl rfl (inc_nat (by omega))) rfl rfl rfl ?_
    refine qK (qY rfl) rfl rfl rfl ?_
    refine qU ?_
    refine post_again (k + 1) (by show k + 1 ≤ i; omega) (by show n - (k + 1) < n - k; omega) rfl ?_ ?_ rfl
    repeat' first | exact trivial | exact True.intro | refine ⟨rfl, ?_⟩
end Go.Proofs.YtnlnbnjnapofmaaGreat
namespace Go.Proofs.YtnlnbnjnapofmaaGreat
open Go.Sx
theorem en154 : Enters Tryz.prog 154 := yW Tryz.func154 (by kernel_rfl) (by kernel_rfl)
theorem tLetter  (c : Int) (hc : 97 ≤ c ∧ c ≤ 122) (w : World) : Calls Tryz.prog 154 [.int .i32 c].toArray w (Rets (vB (true)) (w)) := by
  refine yQ (n := 9) Tryz.func154 rfl rfl rfl ?_
  refine qJ ?_
  refine qZ ?_
  refine qK (qW rfl) rfl rfl rfl ?_
  refine qU ?_
  refine qQ ?_
  refine qJ ?_
  refine qZ ?_
  refine qK (qY rfl) rfl rfl rfl ?_
  refine qK (opV_leq rfl rfl) rfl rfl rfl ?_
  refine qK (qY rfl) rfl rfl rfl ?_
  refine doL_true 5 rfl (decide_eq_true (by omega)) ?_
  refine qK (qY rfl) rfl rfl rfl ?_
  refine qK (opV_leq rfl rfl) rfl rfl rfl ?_
  refine qK (opV_pick_t rfl rfl rfl rfl) rfl rfl rfl ?_
  refine qK (qW rfl) rfl rfl rfl ?_
  refine qU ?_
  refine qQ ?_
  refine yU ?_
  refine zH (rs := [.tmp 2]) rfl (resC (jU rfl) (resN)) (congrArg (vB) (?_ : _ = true))
  exact decide_eq_true hc.2
theorem tName  (s : ByteArray) (c : Nat) (hsz : s.size = 1) (hd : Utf8.decode s 0 = (c, 1)) (hc : 97 ≤ c ∧ c ≤ 122) (hw : (s.toList == (ByteArray.mk #[119, 111, 114, 108, 100]).toList) = false) (w : World) : Calls Tryz.prog 131 [.string s].toArray w (Rets (vB (true)) (w)) := by
  refine yQ (n := 39) Tryz.func131 rfl rfl rfl ?_
  refine qJ ?_
  refine qZ ?_
  refine qK (qW rfl) rfl rfl rfl ?_
  refine qU ?_
  refine qQ ?_
  refine qJ ?_
  refine qJ ?_
  refine qZ ?_
  refine qK (qY rfl) rfl rfl rfl ?_
  refine qK (opV_lenStr Tryz.underlying9 rfl) rfl rfl rfl ?_
  refine qK (uU rfl rfl) rfl rfl rfl ?_
  refine qK (qY rfl) rfl rfl rfl ?_
  refine doL_false 8 rfl (by rw [decide_eq_false_iff_not]; omega) ?_
  refine qK (qY rfl) rfl rfl rfl ?_
  refine qK (opV_lenStr Tryz.underlying9 rfl) rfl rfl rfl ?_
  refine qK (opV_gtr rfl rfl) rfl rfl rfl ?_
  refine qK (kV rfl rfl rfl rfl) rfl rfl rfl ?_
  refine qK (qY rfl) rfl rfl rfl ?_
  refine doL_false 13 rfl (by rw [decide_eq_false_iff_not]; omega) ?_
  refine qK (qY rfl) rfl rfl rfl ?_
  refine qK (opV_eqlS Tryz.underlying9 rfl rfl) rfl rfl rfl ?_
  refine qK (kV rfl rfl rfl rfl) rfl rfl rfl ?_
  refine qU ?_
  refine qQ ?_
  refine jW rfl (hw) ?_
  refine zU ?_
  refine qQ ?_
  refine qJ ?_
  refine qJ ?_
  refine qZ ?_
  refine qK (qY rfl) rfl rfl rfl ?_
  refine doL_range 18 Tryz.underlying9 rfl rfl rfl ?_; intro b18
  refine qU ?_
  refine qQ ?_
  refine zK ?_
  refine kX 2 ?_
  refine yZ ?_
  refine qJ ?_
  refine qZ ?_
  refine doL_nextS 18 rfl rfl (by omega) hd rfl rfl ?_ rfl; intro R19 hR19
  obtain rfl := Option.some.inj hR19
  refine qK (opV_extract rfl rfl) rfl rfl rfl ?_
  refine qU ?_
  refine qQ ?_
  refine qJ ?_
  refine zV rfl (rfl) ?_
  refine zU ?_
  refine qQ ?_
  refine zK ?_
  refine qJ ?_
  refine qZ ?_
  refine qK (opV_extract rfl rfl) rfl rfl rfl ?_
  refine qK (opV_extract rfl rfl) rfl rfl rfl ?_
  refine qK (qW rfl) rfl rfl rfl ?_
  refine qK (qW rfl) rfl rfl rfl ?_
  refine qU ?_
  refine qQ ?_
  refine qJ ?_
  refine qZ ?_
  refine qK (qY rfl) rfl rfl rfl ?_
  refine kY (F := vB) (zY en154 rfl (fun w _ => tLetter _ (by omega) w)) rfl rfl rfl ?_; intro r24 hr24
  refine qK (opV_not rfl) rfl rfl rfl ?_
  refine qK (qY rfl) rfl rfl rfl ?_
  refine doL_false 26 rfl (by rw [hr24]; rfl) ?_
  refine uZ rfl rfl rfl ?_
  refine uZ rfl rfl rfl ?_
  refine uZ rfl rfl rfl ?_
  refine doL_dead rfl rfl rfl ?_
  refine doL_dead rfl rfl rfl ?_
  refine doL_dead rfl rfl rfl ?_
  refine doL_dead rfl rfl rfl ?_
  refine doL_dead rfl rfl rfl ?_
  refine doL_dead rfl rfl rfl ?_
  refine doL_dead rfl rfl rfl ?_
  refine uZ rfl rfl rfl ?_
  refine qK (kV rfl rfl rfl rfl) rfl rfl rfl ?_
  refine qU ?_
  refine qQ ?_
  refine jW rfl (rfl) ?_
  refine zU ?_
  refine qV ?_
  refine zW ?_
  refine yZ ?_
  refine qJ ?_
  refine qZ ?_
  refine qK (opV_nextE 18 rfl rfl (by omega)) rfl rfl rfl ?_
  refine qK (opV_extract rfl rfl) rfl rfl rfl ?_
  refine qU ?_
  refine qQ ?_
  refine qJ ?_
  refine jW rfl (rfl) ?_
  refine kH ?_
  refine zX ?_
  refine zX ?_
  refine yH ?_
  refine qQ ?_
  refine qJ ?_
  refine qZ ?_
  refine qK (qW rfl) rfl rfl rfl ?_
  refine qU ?_
  refine qQ ?_
  refine yU ?_
  refine zH (rs := [.tmp 2]) rfl (resC (jU rfl) (resN)) (congrArg (vB) (?_ : _ = true))
  rfl
end Go.Proofs.YtnlnbnjnapofmaaGreat
namespace Go.Proofs.YtnlnbnjnapofmaaGreat
open Go.Sx
theorem en131 : Enters Tryz.prog 131 := yW Tryz.func131 (by kernel_rfl) (by kernel_rfl)
theorem en132 : Enters Tryz.prog 132 := yW Tryz.func132 (by kernel_rfl) (by kernel_rfl)
theorem en133 : Enters Tryz.prog 133 := yW Tryz.func133 (by kernel_rfl) (by kernel_rfl)
theorem en134 : Enters Tryz.prog 134 := yW Tryz.func134 (by kernel_rfl) (by kernel_rfl)
theorem fa87_6 : fieldB Tryz.prog 87 6 8 = true := by kernel_rfl
theorem en135 : Enters Tryz.prog 135 := yW Tryz.func135 (by kernel_rfl) (by kernel_rfl)
theorem fa87_7 : fieldB Tryz.prog 87 7 9 = true := by kernel_rfl
theorem fa87_8 : fieldB Tryz.prog 87 8 10 = true := by kernel_rfl
theorem fa87_9 : fieldB Tryz.prog 87 9 11 = true := by kernel_rfl
theorem limK_b (k : Int) : 0 ≤ limK k ∧ limK k ≤ 4194304 := by
  unfold limK; split <;> (try split) <;> omega
theorem cJoint  (aj am : Option Addr) (cj nm cm n i : Nat) (js : List J) (j : J) (c : Nat) (hn : n ≤ 1000) (hjn : js.length = n) (hin : i < n) (hjk : js[i]? = some j) (hne : ∀ (k : Nat), k < i → ∀ (j2 : J), js[k]? = some j2 → (j2.name.toList == j.name.toList) = false) (hsz : j.name.size = 1) (hd : Utf8.decode j.name 0 = (c, 1)) (hc : 97 ≤ c ∧ c ≤ 122) (hw : (j.name.toList == (ByteArray.mk #[119, 111, 114, 108, 100]).toList) = false) (hkd : 0 ≤ j.kind ∧ j.kind ≤ 6) (hpa : -1 ≤ j.parent ∧ j.parent < i) (h0 : -4194304 ≤ j.off.x ∧ j.off.x ≤ 4194304) (h1 : -4194304 ≤ j.off.y ∧ j.off.y ≤ 4194304) (h2 : -4194304 ≤ j.off.z ∧ j.off.z ≤ 4194304) (hlh : j.lo ≤ j.hi ∧ -limK j.kind ≤ j.lo ∧ j.hi ≤ limK j.kind) (hwe : 1 ≤ j.weight ∧ j.weight ≤ 1024) (hsp : 1 ≤ j.speed ∧ j.speed ≤ 1048576) (hac : 1 ≤ j.accel ∧ j.accel ≤ 1048576) (htq : 1 ≤ j.torque ∧ j.torque ≤ 1099511627776) (w : World) (hS : SlcIs 12 aj (js.map jc) w) : Calls Tryz.prog 98 [.agg #[.slice aj n cj, .slice am nm cm], .int .i64 (i : Int)].toArray w (Rets (vI ((0 : Int))) (w)) := by
  refine yQ (n := 91) Tryz.func98 rfl rfl rfl ?_
  refine qJ ?_
  refine qZ ?_
  refine kK 2 rfl rfl rfl rfl ?_; intro b2
  refine qK (qW rfl) rfl rfl rfl ?_
  refine qU ?_
  refine qQ ?_
  refine qJ ?_
  have hj : (js.map jc)[i]? = some (jc j) := by rw [List.getElem?_map, hjk]; rfl
  have hL := limK_b j.kind
  refine qZ ?_
  refine qK (qH fa26_0 rfl) rfl rfl rfl ?_
  refine qK (zJ 2 ty23 rfl rfl rfl) rfl rfl rfl ?_
  refine qK (qY rfl) rfl rfl rfl ?_
  refine qK (opV_indexS (e := 87) (holds_base hS) (by kernel_rfl) rfl rfl rfl hj hin) rfl rfl rfl ?_
  refine qK (opV_loadSA (vs := [.string j.name, .int .i64 j.kind, .int .i64 j.parent, .int .i64 j.off.x, .int .i64 j.off.y, .int .i64 j.off.z, .int .i64 j.lo, .int .i64 j.hi, .int .i64 j.weight, .int .i64 j.speed, .int .i64 j.accel, .int .i64 j.torque]) i 0 (holds_base hS) hj ty87 rfl rfl) rfl rfl rfl ?_
  refine jZ 5 ze87 rfl rfl rfl ?_; intro b5
  refine zZ 5 ty87 rfl rfl rfl rfl rfl rfl rfl rfl ?_
  refine qU ?_
  refine qQ ?_
  refine qJ ?_
  refine zK ?_
  refine qJ ?_
  refine qZ ?_
  refine qK (qH fa87_0 rfl) rfl rfl rfl ?_
  refine qK (zJ 5 ty9 rfl rfl rfl) rfl rfl rfl ?_
  refine kY (F := vB) (zY en131 rfl (fun w _ => tName _ c hsz hd hc hw w)) rfl rfl rfl ?_; intro r15 hr15
  refine qK (opV_not rfl) rfl rfl rfl ?_
  refine qK (qY rfl) rfl rfl rfl ?_
  refine doL_false 17 rfl (by rw [hr15]; rfl) ?_
  refine qK (zQ 2 ty26 rfl rfl rfl) rfl rfl rfl ?_
  refine qK (qH fa87_0 rfl) rfl rfl rfl ?_
  refine qK (zJ 5 ty9 rfl rfl rfl) rfl rfl rfl ?_
  refine kY (F := vI) (zY en132 rfl (fun w' k => cFind aj am cj nm cm n i js j.name hn hjn hin hne ⟨j, hjk, by simp⟩ w' (slc_grow hS k.grow))) rfl rfl rfl ?_; intro r21 hr21
  refine qK (qY rfl) rfl rfl rfl ?_
  refine qK (opV_neq rfl rfl) rfl rfl rfl ?_
  refine qK (kV rfl rfl rfl rfl) rfl rfl rfl ?_
  refine qK (qW rfl) rfl rfl rfl ?_
  refine qU ?_
  refine qQ ?_
  refine jW rfl (by rw [hr21]; simp) ?_
  refine qJ ?_
  refine qZ ?_
  refine qK (qH fa87_1 rfl) rfl rfl rfl ?_
  refine qK (zJ 5 ty3 rfl rfl rfl) rfl rfl rfl ?_
  refine qK (yK rfl rfl) rfl rfl rfl ?_
  refine qK (qY rfl) rfl rfl rfl ?_
  refine doL_false 29 rfl (by rw [decide_eq_false_iff_not]; omega) ?_
  refine qK (qH fa87_1 rfl) rfl rfl rfl ?_
  refine qK (zJ 5 ty3 rfl rfl rfl) rfl rfl rfl ?_
  refine qK (opV_gtr rfl rfl) rfl rfl rfl ?_
  refine qK (kV rfl rfl rfl rfl) rfl rfl rfl ?_
  refine qK (qW rfl) rfl rfl rfl ?_
  refine qU ?_
  refine qQ ?_
  refine jW rfl (by rw [decide_eq_false_iff_not]; omega) ?_
  refine qJ ?_
  refine qZ ?_
  refine qK (qH fa87_2 rfl) rfl rfl rfl ?_
  refine qK (zJ 5 ty3 rfl rfl rfl) rfl rfl rfl ?_
  refine qK (yK rfl rfl) rfl rfl rfl ?_
  refine qK (qY rfl) rfl rfl rfl ?_
  refine doL_false 38 rfl (by rw [decide_eq_false_iff_not]; omega) ?_
  refine qK (qH fa87_2 rfl) rfl rfl rfl ?_
  refine qK (zJ 5 ty3 rfl rfl rfl) rfl rfl rfl ?_
  refine qK (qY rfl) rfl rfl rfl ?_
  refine qK (opV_geq rfl rfl) rfl rfl rfl ?_
  refine qK (kV rfl rfl rfl rfl) rfl rfl rfl ?_
  refine qK (qW rfl) rfl rfl rfl ?_
  refine qU ?_
  refine qQ ?_
  refine jW rfl (by rw [decide_eq_false_iff_not]; omega) ?_
  refine qJ ?_
  refine qZ ?_
  refine qK (qH fa87_3 rfl) rfl rfl rfl ?_
  refine qK (zQ 5 ty29 rfl rfl rfl) rfl rfl rfl ?_
  refine kY (F := vB) (zY en133 rfl (fun w _ => cBeyond _ _ _ h0 h1 h2 w)) rfl rfl rfl ?_; intro r47 hr47
  refine qK (qW rfl) rfl rfl rfl ?_
  refine qU ?_
  refine qQ ?_
  refine jW rfl (hr47) ?_
  refine zU ?_
  refine qV ?_
  refine qQ ?_
  refine qJ ?_
  refine qZ ?_
  refine qK (qH fa87_1 rfl) rfl rfl rfl ?_
  refine qK (zJ 5 ty3 rfl rfl rfl) rfl rfl rfl ?_
  refine kY (F := vI) (zY en134 rfl (fun w _ => cLimit _  w)) rfl rfl rfl ?_; intro r50 hr50
  subst hr50
  refine qK (qW rfl) rfl rfl rfl ?_
  refine qU ?_
  refine qQ ?_
  refine qJ ?_
  refine qJ ?_
  refine qZ ?_
  refine qK (qH fa87_4 rfl) rfl rfl rfl ?_
  refine qK (zJ 5 ty2 rfl rfl rfl) rfl rfl rfl ?_
  refine qK (qH fa87_5 rfl) rfl rfl rfl ?_
  refine qK (zJ 5 ty2 rfl rfl rfl) rfl rfl rfl ?_
  refine qK (opV_gtr rfl rfl) rfl rfl rfl ?_
  refine qK (qY rfl) rfl rfl rfl ?_
  refine doL_false 56 rfl (by rw [decide_eq_false_iff_not]; omega) ?_
  refine qK (qH fa87_4 rfl) rfl rfl rfl ?_
  refine qK (zJ 5 ty2 rfl rfl rfl) rfl rfl rfl ?_
  refine qK (qY rfl) rfl rfl rfl ?_
  refine qK (opV_neg rfl (by first | exact neg_in ⟨by omega, by omega⟩ | rfl)) rfl rfl rfl ?_
  refine qK (yK rfl rfl) rfl rfl rfl ?_
  refine qK (kV rfl rfl rfl rfl) rfl rfl rfl ?_
  refine qK (qY rfl) rfl rfl rfl ?_
  refine doL_false 63 rfl (by rw [decide_eq_false_iff_not]; omega) ?_
  refine qK (qH fa87_5 rfl) rfl rfl rfl ?_
  refine qK (zJ 5 ty2 rfl rfl rfl) rfl rfl rfl ?_
  refine qK (qY rfl) rfl rfl rfl ?_
  refine qK (opV_gtr rfl rfl) rfl rfl rfl ?_
  refine qK (kV rfl rfl rfl rfl) rfl rfl rfl ?_
  refine qU ?_
  refine qQ ?_
  refine jW rfl (by rw [decide_eq_false_iff_not]; omega) ?_
  refine zU ?_
  refine qQ ?_
  refine qJ ?_
  refine qJ ?_
  refine qZ ?_
  refine qK (qH fa87_6 rfl) rfl rfl rfl ?_
  refine qK (zJ 5 ty2 rfl rfl rfl) rfl rfl rfl ?_
  refine kY (F := vB) (zY en135 rfl (fun w _ => cFrom1 _ _  w)) rfl rfl rfl ?_; intro r71 hr71
  refine qK (opV_not rfl) rfl rfl rfl ?_
  refine qK (qY rfl) rfl rfl rfl ?_
  refine doL_false 73 rfl (by rw [hr71]; simp; omega) ?_
  refine qK (qH fa87_7 rfl) rfl rfl rfl ?_
  refine qK (zJ 5 ty2 rfl rfl rfl) rfl rfl rfl ?_
  refine kY (F := vB) (zY en135 rfl (fun w _ => cFrom1 _ _  w)) rfl rfl rfl ?_; intro r76 hr76
  refine qK (opV_not rfl) rfl rfl rfl ?_
  refine qK (kV rfl rfl rfl rfl) rfl rfl rfl ?_
  refine qK (qY rfl) rfl rfl rfl ?_
  refine doL_false 79 rfl (by rw [hr76]; simp; omega) ?_
  refine qK (qH fa87_8 rfl) rfl rfl rfl ?_
  refine qK (zJ 5 ty2 rfl rfl rfl) rfl rfl rfl ?_
  refine kY (F := vB) (zY en135 rfl (fun w _ => cFrom1 _ _  w)) rfl rfl rfl ?_; intro r82 hr82
  refine qK (opV_not rfl) rfl rfl rfl ?_
  refine qK (kV rfl rfl rfl rfl) rfl rfl rfl ?_
  refine qK (qY rfl) rfl rfl rfl ?_
  refine doL_false 85 rfl (by rw [hr82]; simp; omega) ?_
  refine qK (qH fa87_9 rfl) rfl rfl rfl ?_
  refine qK (zJ 5 ty2 rfl rfl rfl) rfl rfl rfl ?_
  refine kY (F := vB) (zY en135 rfl (fun w _ => cFrom1 _ _  w)) rfl rfl rfl ?_; intro r88 hr88
  refine qK (opV_not rfl) rfl rfl rfl ?_
  refine qK (kV rfl rfl rfl rfl) rfl rfl rfl ?_
  refine qU ?_
  refine qQ ?_
  refine jW rfl (by rw [hr88]; simp; omega) ?_
  refine zU ?_
  refine qQ ?_
  refine qJ ?_
  refine qZ ?_
  refine qK (qW rfl) rfl rfl rfl ?_
  refine qU ?_
  refine qQ ?_
  refine yU ?_
  refine zH (rs := [.tmp 4]) rfl (resC (jU rfl) (resN)) (congrArg (vI) (?_ : _ = (0 : Int)))
  rfl
end Go.Proofs.YtnlnbnjnapofmaaGreat

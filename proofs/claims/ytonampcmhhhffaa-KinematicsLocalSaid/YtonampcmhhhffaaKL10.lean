/- Texts merged. No condition. -/
import Derived.Test.YtonampcmhhhffaaKL9
namespace Go.Proofs.Ytonampcmhhhffaa
open Go.Sx
theorem en56 : Enters Try.prog 56 := enters_of Try.func56 (by kernel_rfl) (by kernel_rfl)
theorem en57 : Enters Try.prog 57 := enters_of Try.func57 (by kernel_rfl) (by kernel_rfl)
theorem en44 : Enters Try.prog 44 := enters_of Try.func44 (by kernel_rfl) (by kernel_rfl)
theorem en70 : Enters Try.prog 70 := enters_of Try.func70 (by kernel_rfl) (by kernel_rfl)
theorem sl92 : slcB Try.prog 92 63 24 = true := by kernel_rfl
theorem ag63 : aggB Try.prog 63 = true := by kernel_rfl
theorem ce63 (a0 a1 a2 a3 a4 a5 a6 a7 a8 a9 a10 a11 a12 a13 a14 a15 a16 a17 a18 a19 a20 a21 a22 a23 : Int) : cellsB Try.prog 5 63 [.int .i64 a0, .int .i64 a1, .int .i64 a2, .int .i64 a3, .int .i64 a4, .int .i64 a5, .int .i64 a6, .int .i64 a7, .int .i64 a8, .int .i64 a9, .int .i64 a10, .int .i64 a11, .int .i64 a12, .int .i64 a13, .int .i64 a14, .int .i64 a15, .int .i64 a16, .int .i64 a17, .int .i64 a18, .int .i64 a19, .int .i64 a20, .int .i64 a21, .int .i64 a22, .int .i64 a23] = true := by kernel_rfl
theorem en58 : Enters Try.prog 58 := enters_of Try.func58 (by kernel_rfl) (by kernel_rfl)
theorem shl1 {k : Int} (h : 0 ≤ k ∧ k ≤ 62) : IntKind.i64.wrap (1 * 2 ^ min k.toNat IntKind.i64.bits) = 2 ^ k.toNat := by
  have hb : IntKind.i64.bits = 64 := rfl
  rw [show min k.toNat IntKind.i64.bits = k.toNat by omega, Int.one_mul]
  have e : (2 : Int) ^ k.toNat = ((2 ^ k.toNat : Nat) : Int) := by simp
  have p2 : (2 : Nat) ^ k.toNat ≤ 2 ^ 62 := Nat.pow_le_pow_right (by decide) (by omega)
  have p0 : 0 < (2 : Nat) ^ k.toNat := Nat.pow_pos (by decide)
  refine i64_in ?_
  rw [e]
  omega
theorem u64_in {x : Int} (h : 0 ≤ x ∧ x ≤ 9223372036854775807) : IntKind.u64.wrap x = x := by
  unfold IntKind.wrap
  have hb : IntKind.u64.bits = 64 := rfl
  have hs : IntKind.u64.signed = false := rfl
  simp only [hb, hs, Bool.false_and]
  simp
  omega
theorem kind_uint : (Try.prog).intKind 108 = .u64 := by kernel_rfl
theorem und_uint : (Try.prog).underlying 108 = some (.int ((Try.prog).intKind 108)) := by kernel_rfl
theorem opV_uint {w0 : Base} {S : Slots} {H : Heap} {dd : Option Tmp} {x : Operand} {k : Int} {ty : TypeId} {pos : String} {af : Array Edge} {g : Option (Nat × Bool)} (hx : ev S x = some (.int .i64 k)) (h : 0 ≤ k ∧ k ≤ 9223372036854775807) :
    OpV Try.prog w0 S H ⟨dd, .convert 3 108 x, ty, pos, af, g⟩ (.int .u64 k) :=
  opV_of (by simp [knownB, Op.operands, hx]) rfl fun w _ => by
    have := Go.run_convert_int (P := Try.prog) w 3 108 .i64 k (by kernel_rfl) und_uint
    rw [kind_uint, u64_in h] at this
    simp [execOp, evD_of hx, this]
theorem ivMkC (a : Int) (b : Int) (w : World) : Calls Try.prog 44 [.int .i64 a, .int .i64 b].toArray w (Rets (iv (ivMk a b)) (w)) := by
  refine calls_of_doC (n := 50) Try.func44 rfl rfl rfl ?_
  refine doC_seq ?_
  refine doC_region ?_
  refine doL_alloc 4 ze23 rfl rfl rfl ?_; intro b4
  refine doL_nil ?_
  refine post_then ?_
  refine doC_seq ?_
  refine doC_region ?_
  refine doL_v (opV_move rfl) rfl rfl rfl ?_
  refine doL_v (opV_shr rfl rfl (by first | decide | omega) shr_3) rfl rfl rfl ?_
  refine doL_vg (F := vI) (opV_call en22 rfl (fun w _ => mRound _ _ (by first | omega | assumption | (unfold In64; omega) | decide) w)) rfl rfl rfl ?_; intro r10 hr10
  have qr10 : 0 ≤ r10 ∧ r10 < 27 := by omega
  have kb := ivKm_bnd a
  have ke : ivKm a = 2 ^ (4 + r10).toNat := by rw [hr10]; rfl
  rw [ke] at kb
  refine doL_v (opV_add rfl rfl (by first | exact i64_in ⟨by omega, by omega⟩ | rfl)) rfl rfl rfl ?_
  refine doL_v (opV_uint rfl (by omega)) rfl rfl rfl ?_
  refine doL_v (opV_shl rfl rfl (by first | decide | omega) (shl1 (by omega))) rfl rfl rfl ?_
  refine doL_v (opV_assign rfl) rfl rfl rfl ?_
  refine doL_nil ?_
  refine post_then ?_
  refine doC_seq ?_
  refine doC_region ?_
  refine doL_v (opV_move rfl) rfl rfl rfl ?_
  refine doL_v (opV_move rfl) rfl rfl rfl ?_
  refine doL_v (opV_mul rfl rfl (by first | exact i64_in ⟨by omega, by omega⟩ | rfl)) rfl rfl rfl ?_
  refine doL_v (opV_add rfl rfl (by first | exact i64_in ⟨by omega, by omega⟩ | rfl)) rfl rfl rfl ?_
  refine doL_vg (F := vI) (opV_call en22 rfl (fun w _ => mRound _ _ (by first | omega | assumption | (unfold In64; omega) | decide) w)) rfl rfl rfl ?_; intro r18 hr18
  have qr18 := Int.emod_nonneg a (show 2 * 2 ^ (4 + r10).toNat + 1 ≠ 0 by omega)
  have pr18 := Int.emod_lt_of_pos a (show 0 < 2 * 2 ^ (4 + r10).toNat + 1 by omega)
  refine doL_v (opV_move rfl) rfl rfl rfl ?_
  refine doL_v (opV_sub rfl rfl (i64_in (by omega))) rfl rfl rfl ?_
  refine doL_v (opV_move rfl) rfl rfl rfl ?_
  refine doL_v (opV_move rfl) rfl rfl rfl ?_
  refine doL_v (opV_mul rfl rfl (by first | exact i64_in ⟨by omega, by omega⟩ | rfl)) rfl rfl rfl ?_
  refine doL_v (opV_add rfl rfl (by first | exact i64_in ⟨by omega, by omega⟩ | rfl)) rfl rfl rfl ?_
  refine doL_vg (F := vI) (opV_call en22 rfl (fun w _ => mRound _ _ (by first | omega | assumption | (unfold In64; omega) | decide) w)) rfl rfl rfl ?_; intro r25 hr25
  have qr25 := Int.emod_nonneg b (show 2 * 2 ^ (4 + r10).toNat + 1 ≠ 0 by omega)
  have pr25 := Int.emod_lt_of_pos b (show 0 < 2 * 2 ^ (4 + r10).toNat + 1 by omega)
  refine doL_v (opV_move rfl) rfl rfl rfl ?_
  refine doL_v (opV_sub rfl rfl (i64_in (by omega))) rfl rfl rfl ?_
  refine doL_v (opV_assign rfl) rfl rfl rfl ?_
  refine doL_v (opV_assign rfl) rfl rfl rfl ?_
  refine doL_nil ?_
  refine post_then ?_
  refine doC_seq ?_
  refine doC_seq ?_
  refine doC_region ?_
  refine doL_v (opV_move rfl) rfl rfl rfl ?_
  refine doL_v (opV_and rfl rfl and_1) rfl rfl rfl ?_
  refine doL_v (opV_eql rfl rfl) rfl rfl rfl ?_
  refine doL_nil ?_
  refine post_then ?_
  refine doC_cond rfl (fun hc30 => ?_) (fun hc30 => ?_)
  ·
    refine doC_region ?_
    refine doL_v (opV_move rfl) rfl rfl rfl ?_
    refine doL_v (opV_move rfl) rfl rfl rfl ?_
    refine doL_v (opV_shr rfl rfl (by first | decide | omega) shr_1) rfl rfl rfl ?_
    refine doL_v (opV_move rfl) rfl rfl rfl ?_
    refine doL_v (opV_quo rfl rfl (by first | decide | omega) (by first | exact (congrArg _ (tdiv_nonneg (by omega) (by omega))).trans (i64_in ⟨by omega, by omega⟩) | rfl)) rfl rfl rfl ?_
    refine doL_v (opV_add rfl rfl (by first | exact i64_in ⟨by omega, by omega⟩ | rfl)) rfl rfl rfl ?_
    refine doL_vg (F := vI) (opV_call en22 rfl (fun w _ => mRound _ _ (by first | omega | assumption | (unfold In64; omega) | decide) w)) rfl rfl rfl ?_; intro r37 hr37
    have qr37 := Int.emod_nonneg (b / 2) (show 1 + 2 ^ (4 + r10).toNat / 8 ≠ 0 by omega)
    have pr37 := Int.emod_lt_of_pos (b / 2) (show 0 < 1 + 2 ^ (4 + r10).toNat / 8 by omega)
    refine doL_v (opV_add rfl rfl (by first | exact i64_in ⟨by omega, by omega⟩ | rfl)) rfl rfl rfl ?_
    refine doL_v (opV_assign rfl) rfl rfl rfl ?_
    refine doL_nil ?_
    refine post_then ?_
    refine doC_seq ?_
    refine doC_region ?_
    refine doL_v (opV_move rfl) rfl rfl rfl ?_
    refine doL_vg (F := vI) (opV_call en86 rfl (fun w _ => rClamp _  w)) rfl rfl rfl ?_; intro r40 hr40
    refine doL_v (opV_move rfl) rfl rfl rfl ?_
    refine doL_vg (F := vI) (opV_call en86 rfl (fun w _ => rClamp _  w)) rfl rfl rfl ?_; intro r42 hr42
    refine doL_v (opV_min2 rfl rfl) rfl rfl rfl ?_
    refine doL_v (opV_move rfl) rfl rfl rfl ?_
    refine doL_vg (F := vI) (opV_call en86 rfl (fun w _ => rClamp _  w)) rfl rfl rfl ?_; intro r45 hr45
    refine doL_v (opV_move rfl) rfl rfl rfl ?_
    refine doL_vg (F := vI) (opV_call en86 rfl (fun w _ => rClamp _  w)) rfl rfl rfl ?_; intro r47 hr47
    refine doL_v (opV_max2 rfl rfl) rfl rfl rfl ?_
    refine doL_v (opV_build la23 rfl rfl) rfl rfl rfl ?_
    refine doL_store 4 ty23 rfl rfl rfl rfl rfl rfl rfl rfl ?_
    refine doL_nil ?_
    refine post_then ?_
    refine doC_ret ?_
    refine post_rets (rs := [.cell 4 23]) rfl (resC (resIs_cell 4 rfl rfl ty23 rfl) (resN)) (congrArg (iv) (?_ : ⟨_, _⟩ = ivMk a b))
    unfold ivMk; simp only [ke, hc30]; subst_vars; rfl
  ·
    refine doC_skip ?_
    refine post_then ?_
    refine doC_seq ?_
    refine doC_region ?_
    refine doL_v (opV_move rfl) rfl rfl rfl ?_
    refine doL_vg (F := vI) (opV_call en86 rfl (fun w _ => rClamp _  w)) rfl rfl rfl ?_; intro r40 hr40
    refine doL_v (opV_move rfl) rfl rfl rfl ?_
    refine doL_vg (F := vI) (opV_call en86 rfl (fun w _ => rClamp _  w)) rfl rfl rfl ?_; intro r42 hr42
    refine doL_v (opV_min2 rfl rfl) rfl rfl rfl ?_
    refine doL_v (opV_move rfl) rfl rfl rfl ?_
    refine doL_vg (F := vI) (opV_call en86 rfl (fun w _ => rClamp _  w)) rfl rfl rfl ?_; intro r45 hr45
    refine doL_v (opV_move rfl) rfl rfl rfl ?_
    refine doL_vg (F := vI) (opV_call en86 rfl (fun w _ => rClamp _  w)) rfl rfl rfl ?_; intro r47 hr47
    refine doL_v (opV_max2 rfl rfl) rfl rfl rfl ?_
    refine doL_v (opV_build la23 rfl rfl) rfl rfl rfl ?_
    refine doL_store 4 ty23 rfl rfl rfl rfl rfl rfl rfl rfl ?_
    refine doL_nil ?_
    refine post_then ?_
    refine doC_ret ?_
    refine post_rets (rs := [.cell 4 23]) rfl (resC (resIs_cell 4 rfl rfl ty23 rfl) (resN)) (congrArg (iv) (?_ : ⟨_, _⟩ = ivMk a b))
    unfold ivMk; simp only [ke, hc30]; subst_vars; rfl
theorem loc_set {bx : List Iv} {k q : Nat} {a : Iv} {zs : List Value} (hk : k < bx.length) : (bx.map ivc ++ List.replicate q zs).set k (ivc a) = (bx.set k a).map ivc ++ List.replicate q zs := by
  rw [List.set_append_left _ _ (by simpa using hk)]
  congr 1
  exact (List.map_set ..).symm
theorem loc_row {bx : List Iv} {k q : Nat} {zs : List Value} (hk : k < bx.length) : ∃ r, (bx.map ivc ++ List.replicate q zs)[k]? = some r := by
  refine ⟨ivc bx[k], ?_⟩
  rw [List.getElem?_append_left (by simpa using hk), List.getElem?_map, List.getElem?_eq_getElem hk]
  rfl
theorem loc_valid {bx : List Iv} {k : Nat} {a : Iv} (h : ∀ x ∈ bx, Iv.valid x = true) (ha : Iv.valid a = true) : ∀ x ∈ bx.set k a, Iv.valid x = true := fun x hx => by
  rcases List.mem_or_eq_of_mem_set hx with h1 | h1
  · exact h x h1
  · rw [h1]; exact ha
theorem loc_end {js : List J} {a b : List Iv} {n i : Nat} {dep : Bool} {p q : Po} (h : dep = false → PosEq js a b n (-1) → PosEq js a b n (i : Int)) (hp : (lks js a n)[i]? = some p) (hq : (lks js b n)[i]? = some q) (hd : dep = false) : p = q := by
  rcases h hd (.inl rfl) with h | h
  · omega
  · rw [Int.toNat_natCast, hp, hq] at h
    exact Option.some.inj h
theorem wKLocal (lv : Value) (l : List Int) (ov : Value) (o : List Int) (p : Int) (v : Int) (u : Int) (w : World) (hl : IntsAt w w.heap.size lv l) (ho : IntsAt w w.heap.size ov o) : Calls Try.prog 19 [lv, ov, .int .i64 p, .int .i64 v, .int .i64 u].toArray w (Rets (vB (true)) (w)) := by
  refine calls_of_doC (n := 94) Try.func19 rfl rfl rfl ?_
  refine doC_seq ?_
  refine doC_region ?_
  refine doL_v (opV_assign rfl) rfl rfl rfl ?_
  refine doL_nil ?_
  refine post_then ?_
  refine doC_seq ?_
  refine doC_region ?_
  refine doL_v (opV_move rfl) rfl rfl rfl ?_
  refine doL_told 21 en56 rfl (fun w' k => mkScene _ l w' (intsAt_grow hl k.grow k.grow.size)) rfl rfl ?_; intro x21 Dx21 _
  unfold scV
  have hn := nJ_b l 0
  have hjl := jsOf_len l 0 (nJ l 0)
  refine doL_alloc 11 ze78 rfl rfl rfl ?_; intro b11
  refine doL_store 11 ty78 rfl rfl rfl rfl rfl rfl rfl rfl ?_
  refine doL_nil ?_
  refine post_then ?_
  refine doC_seq ?_
  refine doC_region ?_
  refine doL_v (opV_fieldAddr fa78_0 rfl) rfl rfl rfl ?_
  refine doL_v (opV_loadA 11 ty74 rfl rfl rfl) rfl rfl rfl ?_
  refine doL_v (opV_move rfl) rfl rfl rfl ?_
  refine doL_told 25 en57 rfl (fun w' k => madeBox w' (intsAt_grow ho k.grow k.grow.size) (((holds_r (id := 21) rfl).imp fun _ h => h.1.1) _ _ k)) rfl rfl ?_; intro x25 Dx25 _
  obtain ⟨ab, cb⟩ := x25
  dsimp only
  have hbl : (bxs o (jsOf l 0 (nJ l 0)).1 (nJ l 0)).1.length = nJ l 0 := bxs_length (l := o) (js := (jsOf l 0 (nJ l 0)).1) (nJ l 0) (by omega)
  have hbv := bxs_valid (l := o) (js := (jsOf l 0 (nJ l 0)).1) (jsOf_b l 0 _) (nJ l 0)
  generalize hbx : (bxs o (jsOf l 0 (nJ l 0)).1 (nJ l 0)).1 = bx at *
  refine doL_v (opV_assign rfl) rfl rfl rfl ?_
  refine doL_nil ?_
  refine post_then ?_
  refine doC_seq ?_
  refine doC_region ?_
  refine doL_v (opV_move rfl) rfl rfl rfl ?_
  refine doL_copy 27 (makeB_of app80 ze23) (holds_r (id := 25) rfl) rfl rfl (by simpa using hbl) (by omega) (by omega) (by omega) rfl rfl ?_; intro b27 c27 q27
  refine doL_v (opV_assign rfl) rfl rfl rfl ?_
  refine doL_nil ?_
  refine post_then ?_
  refine doC_seq ?_
  refine doC_region ?_
  refine doL_v (opV_move rfl) rfl rfl rfl ?_
  refine doL_v (opV_move rfl) rfl rfl rfl ?_
  refine doL_v (opV_len_slice sl80 rfl) rfl rfl rfl ?_
  refine doL_vg (F := vI) (opV_call en22 rfl (fun w _ => mRound _ _ (by omega) w)) rfl rfl rfl ?_; intro r31 hr31
  have q31 := Int.emod_nonneg p (show ((nJ l 0 : Nat) : Int) ≠ 0 by omega)
  have p31 := Int.emod_lt_of_pos p (show 0 < ((nJ l 0 : Nat) : Int) by omega)
  rw [← hr31] at q31 p31
  obtain ⟨kk, hkk⟩ : ∃ kk : Nat, r31 = (kk : Int) := ⟨r31.toNat, by omega⟩
  have hkl : kk < bx.length := by omega
  obtain ⟨rw0, hrw⟩ := loc_row (bx := bx) (q := q27) (zs := [.int .i64 0, .int .i64 0]) hkl
  clear hr31
  subst hkk
  refine doL_v (opV_assign rfl) rfl rfl rfl ?_
  refine doL_nil ?_
  refine post_then ?_
  refine doC_seq ?_
  refine doC_region ?_
  refine doL_v (opV_move rfl) rfl rfl rfl ?_
  refine doL_v (opV_move rfl) rfl rfl rfl ?_
  refine doL_v (opV_move rfl) rfl rfl rfl ?_
  refine doL_v (opV_move rfl) rfl rfl rfl ?_
  refine doL_vg (F := iv) (opV_call en44 rfl (fun w _ => ivMkC _ _  w)) rfl rfl rfl ?_; intro r36 hr36
  refine doL_v (opV_indexS (e := 23) ((holds_r (id := 27) rfl).imp rowsF_slc) (by kernel_rfl) rfl rfl rfl hrw (by omega)) rfl rfl rfl ?_
  refine doL_storeRow (vs := ivc r36) (j := kk) 27 ty23 rfl rfl rfl (by simp; omega) rfl rfl rfl rfl ?_; intro R37 hR37
  obtain rfl := Option.some.inj hR37
  rw [loc_set hkl]
  have hcv := loc_valid (k := kk) (a := r36) hbv (by rw [hr36]; exact ivMk_valid _ _)
  have hcl : (bx.set kk r36).length = nJ l 0 := by simpa using hbl
  have hcne : ∀ i : Nat, i ≠ kk → bx[i]? = (bx.set kk r36)[i]? := fun i hi => (List.getElem?_set_ne (Ne.symm hi)).symm
  generalize bx.set kk r36 = cx at *
  refine doL_nil ?_
  refine post_then ?_
  refine doC_seq ?_
  refine doC_drawn 8 mo (by kernel_rfl) ?_
  simp only [List.take_succ_cons, List.take_zero, List.drop_succ_cons, List.drop_zero]
  refine doG_v (opV_fieldAddr fa78_0 rfl) rfl rfl rfl ?_
  refine doG_v (opV_loadA 11 ty74 rfl rfl rfl) rfl rfl rfl ?_
  refine doG_v (opV_move rfl) rfl rfl rfl ?_
  refine doG_told en70 rfl (fun w' k => madeLinks w' hbl hbv (((holds_r (id := 21) rfl).imp fun _ h => h.1.1) _ _ k) (((holds_r (id := 21) rfl).imp fun _ h => h.1.2) _ _ k) ((holds_r (id := 25) rfl) _ _ k)) rfl rfl rfl ?_
  refine doG_v (opV_fieldAddr fa78_0 rfl) rfl rfl rfl ?_
  refine doG_v (opV_loadA 11 ty74 rfl rfl rfl) rfl rfl rfl ?_
  refine doG_v (opV_move rfl) rfl rfl rfl ?_
  refine doG_told en70 rfl (fun w' k => madeLinks w' hcl hcv (((holds_r (id := 21) rfl).imp fun _ h => h.1.1) _ _ k) (((holds_r (id := 21) rfl).imp fun _ h => h.1.2) _ _ k) ((((holds_r (id := 27) rfl).imp rowsF_slc).imp slc_pre) _ _ k)) rfl rfl rfl ?_
  refine doG_nil ?_
  refine tail_tell2 45 rfl rfl rfl ?_; intro x45 x41 D45 _ _
  refine tail_nil ?_
  refine doL_v (opV_assign rfl) rfl rfl rfl ?_
  refine doL_v (opV_assign rfl) rfl rfl rfl ?_
  refine doL_nil ?_
  refine post_then ?_
  refine doC_seq ?_
  refine doC_seq ?_
  refine doC_region ?_
  refine doL_v (opV_move rfl) rfl rfl rfl ?_
  refine doL_v (opV_len_slice sl92 rfl) rfl rfl rfl ?_
  refine doL_v (opV_move rfl) rfl rfl rfl ?_
  refine doL_v (opV_len_slice sl80 rfl) rfl rfl rfl ?_
  refine doL_v (opV_neq rfl rfl) rfl rfl rfl ?_
  refine doL_v (opV_move rfl) rfl rfl rfl ?_
  refine doL_false 51 rfl (by simp) ?_
  refine doL_v (opV_move rfl) rfl rfl rfl ?_
  refine doL_v (opV_len_slice sl92 rfl) rfl rfl rfl ?_
  refine doL_v (opV_move rfl) rfl rfl rfl ?_
  refine doL_v (opV_len_slice sl80 rfl) rfl rfl rfl ?_
  refine doL_v (opV_neq rfl rfl) rfl rfl rfl ?_
  refine doL_v (opV_pick_f rfl rfl rfl rfl) rfl rfl rfl ?_
  refine doL_nil ?_
  refine post_then ?_
  refine doC_cond_f rfl (by simp) ?_
  refine doC_skip ?_
  refine post_then ?_
  refine doC_seq ?_
  refine doC_seq ?_
  refine doC_region ?_
  refine doL_v (opV_assign rfl) rfl rfl rfl ?_
  refine doL_nil ?_
  refine post_then ?_
  refine doC_block ?_
  refine doC_loopK [11, 14, 15, 16] [11] (α := Nat) (fun x => nJ l 0 - x) (fun x => x ≤ nJ l 0) (fun _ => _) (fun x => [(17, .int .i64 (x : Int))]) (fun _ => []) 0 rfl rfl ?_ rfl ?_ ?_ rfl ?_
  ·
    exact Nat.zero_le _
  ·
    repeat' first | exact trivial | exact True.intro | refine ⟨rfl, ?_⟩
  ·
    repeat' first | exact trivial | exact True.intro | refine ⟨rfl, ?_⟩
  rintro i hi
  try dsimp only at hi ⊢
  refine doC_seq ?_
  refine doC_seq ?_
  refine doC_region ?_
  refine doL_v (opV_move rfl) rfl rfl rfl ?_
  refine doL_v (opV_move rfl) rfl rfl rfl ?_
  refine doL_v (opV_len_slice sl92 rfl) rfl rfl rfl ?_
  refine doL_v (opV_lss rfl rfl) rfl rfl rfl ?_
  refine doL_nil ?_
  refine post_then ?_
  refine doC_cond rfl (fun hc61 => ?_) (fun hc61 => ?_)
  ·
    have h2 : i < nJ l 0 := by have := of_decide_eq_true hc61; omega
    refine doC_skip ?_
    refine post_then ?_
    refine doC_seq ?_
    refine doC_block ?_
    refine doC_seq ?_
    refine doC_region ?_
    refine doL_v (opV_assign rfl) rfl rfl rfl ?_
    refine doL_nil ?_
    refine post_then ?_
    refine doC_seq ?_
    refine doC_seq ?_
    refine doC_region ?_
    refine doL_v (opV_move rfl) rfl rfl rfl ?_
    refine doL_v (opV_assign rfl) rfl rfl rfl ?_
    refine doL_nil ?_
    refine post_then ?_
    refine doC_block ?_
    refine doC_loopK [11, 14, 15, 16, 17] [11] (α := Int × Bool) (fun x => (x.1 + 1).toNat) (fun x => -1 ≤ x.1 ∧ x.1 < nJ l 0 ∧ (x.2 = false → PosEq (jsOf l 0 (nJ l 0)).1 bx cx (nJ l 0) x.1 → PosEq (jsOf l 0 (nJ l 0)).1 bx cx (nJ l 0) (i : Int))) (fun _ => _) (fun x => [(19, .int .i64 x.1), (18, .bool x.2)]) (fun _ => []) ((i : Int), false) rfl rfl ?_ rfl ?_ ?_ rfl ?_
    ·
      exact ⟨by dsimp only; omega, by dsimp only; omega, fun _ h => h⟩
    ·
      repeat' first | exact trivial | exact True.intro | refine ⟨rfl, ?_⟩
    ·
      repeat' first | exact trivial | exact True.intro | refine ⟨rfl, ?_⟩
    rintro ⟨j, dep⟩ ⟨hj1, hj2, hdep⟩
    dsimp only at hj1 hj2 hdep ⊢
    refine doC_seq ?_
    refine doC_seq ?_
    refine doC_region ?_
    refine doL_v (opV_move rfl) rfl rfl rfl ?_
    refine doL_v (opV_neq rfl rfl) rfl rfl rfl ?_
    refine doL_nil ?_
    refine post_then ?_
    refine doC_cond rfl (fun hc66 => ?_) (fun hc66 => ?_)
    ·
      have h3 : ¬ j = -1 := by simpa using hc66
      obtain ⟨jn, rfl⟩ : ∃ jn : Nat, j = (jn : Int) := ⟨j.toNat, by omega⟩
      obtain ⟨jj, hjk⟩ : ∃ jj, (jsOf l 0 (nJ l 0)).1[jn]? = some jj := ⟨_, List.getElem?_eq_getElem (by omega)⟩
      have hj : ((jsOf l 0 (nJ l 0)).1.map jc)[jn]? = some (jc jj) := by rw [List.getElem?_map, hjk]; rfl
      obtain ⟨_, _, _, _, _, _, _, hpj, _⟩ := made_JOK l 0 (nJ l 0) hn.2.1 jn jj hjk
      refine doC_skip ?_
      refine post_then ?_
      refine doC_seq ?_
      refine doC_block ?_
      refine doC_region ?_
      refine doL_v (opV_move rfl) rfl rfl rfl ?_
      refine doL_v (opV_move rfl) rfl rfl rfl ?_
      refine doL_split 75 rfl (fun hg75 => ?_) (fun hg75 => ?_)
      ·
        refine doL_skip rfl rfl rfl ?_
        refine doL_skip rfl rfl rfl ?_
        refine doL_skip rfl rfl rfl ?_
        refine doL_v (opV_pick_t rfl rfl rfl rfl) rfl rfl rfl ?_
        refine doL_v (opV_assign rfl) rfl rfl rfl ?_
        refine doL_nil ?_
        refine post_block_normal ?_
        refine post_then ?_
        refine doC_region ?_
        refine doL_v (opV_fieldAddr fa78_0 rfl) rfl rfl rfl ?_
        refine doL_v (opV_fieldAddr fa74_0 rfl) rfl rfl rfl ?_
        refine doL_v (opV_load1 11 ty71 rfl rfl rfl) rfl rfl rfl ?_
        refine doL_v (opV_move rfl) rfl rfl rfl ?_
        refine doL_v (opV_indexS (e := 70) ((holds_r (id := 21) rfl).imp fun _ h => h.1.1) (by kernel_rfl) rfl rfl rfl hj (by omega)) rfl rfl rfl ?_
        refine doL_v (opV_fieldS ((holds_r (id := 21) rfl).imp fun _ h => h.1.1) hj fa70_2 rfl) rfl rfl rfl ?_
        refine doL_v (opV_loadS1 jn 2 ((holds_r (id := 21) rfl).imp fun _ h => h.1.1) hj ty3 rfl rfl) rfl rfl rfl ?_
        refine doL_v (opV_assign rfl) rfl rfl rfl ?_
        refine doL_nil ?_
        refine post_again (jj.parent, true) ⟨hpj.1, by show jj.parent < ((nJ l 0 : Nat) : Int); omega, fun h => by cases h⟩ (by show (jj.parent + 1).toNat < ((jn : Int) + 1).toNat; omega) rfl ?_ ?_ rfl
        repeat' first | exact trivial | exact True.intro | refine ⟨rfl, ?_⟩
      ·
        refine doL_v (opV_move rfl) rfl rfl rfl ?_
        refine doL_v (opV_move rfl) rfl rfl rfl ?_
        refine doL_v (opV_eql rfl rfl) rfl rfl rfl ?_
        refine doL_v (opV_pick_f rfl rfl rfl rfl) rfl rfl rfl ?_
        refine doL_v (opV_assign rfl) rfl rfl rfl ?_
        refine doL_nil ?_
        refine post_block_normal ?_
        refine post_then ?_
        refine doC_region ?_
        refine doL_v (opV_fieldAddr fa78_0 rfl) rfl rfl rfl ?_
        refine doL_v (opV_fieldAddr fa74_0 rfl) rfl rfl rfl ?_
        refine doL_v (opV_load1 11 ty71 rfl rfl rfl) rfl rfl rfl ?_
        refine doL_v (opV_move rfl) rfl rfl rfl ?_
        refine doL_v (opV_indexS (e := 70) ((holds_r (id := 21) rfl).imp fun _ h => h.1.1) (by kernel_rfl) rfl rfl rfl hj (by omega)) rfl rfl rfl ?_
        refine doL_v (opV_fieldS ((holds_r (id := 21) rfl).imp fun _ h => h.1.1) hj fa70_2 rfl) rfl rfl rfl ?_
        refine doL_v (opV_loadS1 jn 2 ((holds_r (id := 21) rfl).imp fun _ h => h.1.1) hj ty3 rfl rfl) rfl rfl rfl ?_
        refine doL_v (opV_assign rfl) rfl rfl rfl ?_
        refine doL_nil ?_
        refine post_again (jj.parent, decide ((jn : Int) = (kk : Int))) ⟨hpj.1, by show jj.parent < ((nJ l 0 : Nat) : Int); omega, fun h e => hdep hg75 (posEq_step (by omega) (by omega) hbl hcl hjk hpj (hcne jn (by have := of_decide_eq_false h; omega)) e)⟩ (by show (jj.parent + 1).toNat < ((jn : Int) + 1).toNat; omega) rfl ?_ ?_ rfl
        repeat' first | exact trivial | exact True.intro | refine ⟨rfl, ?_⟩
    ·
      have h3 : j = -1 := by simpa using hc66
      subst h3
      obtain ⟨pp, hpp⟩ : ∃ pp, (lks (jsOf l 0 (nJ l 0)).1 bx (nJ l 0))[i]? = some pp := ⟨_, List.getElem?_eq_getElem (by rw [lks_len _ (by omega) (by omega)]; omega)⟩
      obtain ⟨qq, hqq⟩ : ∃ qq, (lks (jsOf l 0 (nJ l 0)).1 cx (nJ l 0))[i]? = some qq := ⟨_, List.getElem?_eq_getElem (by rw [lks_len _ (by omega) (by omega)]; omega)⟩
      have hpp2 : ((lks (jsOf l 0 (nJ l 0)).1 bx (nJ l 0)).map pc)[i]? = some (pc pp) := by rw [List.getElem?_map, hpp]; rfl
      have hqq2 : ((lks (jsOf l 0 (nJ l 0)).1 cx (nJ l 0)).map pc)[i]? = some (pc qq) := by rw [List.getElem?_map, hqq]; rfl
      refine doC_exit ?_
      refine post_then_exit ?_
      refine post_then_exit ?_
      refine post_block_exit ?_
      refine post_then ?_
      refine doC_seq ?_
      refine doC_all mo (by kernel_rfl) ?_
      refine doG_v (opV_move rfl) rfl rfl rfl ?_
      refine doG_vg (F := vB) (opV_not rfl) rfl rfl rfl ?_; intro r81 hr81
      cases r81
      ·
        refine doG_v (opV_move rfl) rfl rfl rfl ?_
        refine doG_skip rfl rfl rfl rfl ?_
        refine doG_skip rfl rfl rfl rfl ?_
        refine doG_skip rfl rfl rfl rfl ?_
        refine doG_skip rfl rfl rfl rfl ?_
        refine doG_skip rfl rfl rfl rfl ?_
        refine doG_skip rfl rfl rfl rfl ?_
        refine doG_skip rfl rfl rfl rfl ?_
        refine doG_skip rfl rfl rfl rfl ?_
        refine doG_skip rfl rfl rfl rfl ?_
        refine doG_v (opV_pick_f rfl rfl rfl rfl) rfl rfl rfl ?_
        refine doG_nil ?_
        refine post_then ?_
        refine doC_cond_f rfl (by first | rfl | exact eq_pc (loc_end hdep hpp hqq (by cases dep; rfl; cases hr81))) ?_
        refine doC_skip ?_
        refine post_block_normal ?_
        refine post_then ?_
        refine doC_region ?_
        refine doL_v (opV_move rfl) rfl rfl rfl ?_
        refine doL_v (opV_add rfl rfl (inc_nat (by omega))) rfl rfl rfl ?_
        refine doL_v (opV_assign rfl) rfl rfl rfl ?_
        refine doL_nil ?_
        refine post_again (i + 1) (by show i + 1 ≤ nJ l 0; omega) (by show nJ l 0 - (i + 1) < nJ l 0 - i; omega) rfl ?_ ?_ rfl
        repeat' first | exact trivial | exact True.intro | refine ⟨rfl, ?_⟩
      ·
        refine doG_v (opV_move rfl) rfl rfl rfl ?_
        refine doG_v (opV_move rfl) rfl rfl rfl ?_
        refine doG_v (opV_move rfl) rfl rfl rfl ?_
        refine doG_v (opV_indexS (e := 63) ((holds_r (id := 45) rfl).imp fun _ h => h.2) (by kernel_rfl) rfl rfl rfl hpp2 h2) rfl rfl rfl ?_
        refine doG_v (opV_loadSA (vs := pc pp) i 0 ((holds_r (id := 45) rfl).imp fun _ h => h.2) hpp2 ty63 rfl rfl) rfl rfl rfl ?_
        refine doG_v (opV_move rfl) rfl rfl rfl ?_
        refine doG_v (opV_move rfl) rfl rfl rfl ?_
        refine doG_v (opV_indexS (e := 63) ((holds_r (id := 45) rfl).imp fun _ h => h.1) (by kernel_rfl) rfl rfl rfl hqq2 h2) rfl rfl rfl ?_
        refine doG_v (opV_loadSA (vs := pc qq) i 0 ((holds_r (id := 45) rfl).imp fun _ h => h.1) hqq2 ty63 rfl rfl) rfl rfl rfl ?_
        refine doG_v (opV_neA 5 rfl ag63 rfl rfl (ce63 _ _ _ _ _ _ _ _ _ _ _ _ _ _ _ _ _ _ _ _ _ _ _ _) (ce63 _ _ _ _ _ _ _ _ _ _ _ _ _ _ _ _ _ _ _ _ _ _ _ _)) rfl rfl rfl ?_
        refine doG_v (opV_pick_t rfl rfl rfl rfl) rfl rfl rfl ?_
        refine doG_nil ?_
        refine post_then ?_
        refine doC_cond_f rfl (by first | rfl | exact eq_pc (loc_end hdep hpp hqq (by cases dep; rfl; cases hr81))) ?_
        refine doC_skip ?_
        refine post_block_normal ?_
        refine post_then ?_
        refine doC_region ?_
        refine doL_v (opV_move rfl) rfl rfl rfl ?_
        refine doL_v (opV_add rfl rfl (inc_nat (by omega))) rfl rfl rfl ?_
        refine doL_v (opV_assign rfl) rfl rfl rfl ?_
        refine doL_nil ?_
        refine post_again (i + 1) (by show i + 1 ≤ nJ l 0; omega) (by show nJ l 0 - (i + 1) < nJ l 0 - i; omega) rfl ?_ ?_ rfl
        repeat' first | exact trivial | exact True.intro | refine ⟨rfl, ?_⟩
  ·
    refine doC_exit ?_
    refine post_then_exit ?_
    refine post_then_exit ?_
    refine post_block_exit ?_
    refine post_then ?_
    refine doC_seq ?_
    refine doC_region ?_
    refine doL_vg (F := vB) (opV_call en58 rfl (fun w _ => awake11   w)) rfl rfl rfl ?_; intro r93 hr93
    refine doL_v (opV_assign rfl) rfl rfl rfl ?_
    refine doL_nil ?_
    refine post_then ?_
    refine doC_ret ?_
    refine post_rets (rs := [.tmp 10]) rfl (resC (resIs_tmp rfl) (resN)) (congrArg (vB) (?_ : _ = true))
    exact hr93
end Go.Proofs.Ytonampcmhhhffaa

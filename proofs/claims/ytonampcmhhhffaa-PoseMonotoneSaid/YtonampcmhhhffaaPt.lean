/- What making intervals and parts of intervals computes. No condition. -/
import Derived.Test.YtonampcmhhhffaaProg
import Derived.Test.YtonampcmhhhffaaMatLaw7
import Derived.Test.YtonampcmhhhffaaSxIdx
import Derived.Test.YtonampcmhhhffaaA1
import Derived.Test.YtonampcmhhhffaaA2
namespace Go.Proofs.Ytonampcmhhhffaa
open Go.Sx
theorem en22 : Enters Try.prog 22 := enters_of Try.func22 (by kernel_rfl) (by kernel_rfl)

theorem partC (a0 a1 : Int) (i : Int) (j : Int) (hv : Ok (⟨a0, a1⟩ : Iv)) (w : World) : Calls Try.prog 45 [.agg #[.int .i64 a0, .int .i64 a1], .int .i64 i, .int .i64 j].toArray w (Rets (iv (partI (⟨a0, a1⟩ : Iv) i j)) (w)) := by
  refine calls_of_doC (n := 42) Try.func45 rfl rfl rfl ?_
  refine doC_seq ?_
  unfold Ok at hv; simp only at hv
  refine doC_region ?_
  refine doL_box 3 rfl rfl rfl rfl ?_; intro b3
  refine doL_alloc 6 ze23 rfl rfl rfl ?_; intro b6
  refine doL_nil ?_
  refine post_then ?_
  refine doC_seq ?_
  refine doC_region ?_
  refine doL_v (opV_fieldAddr fa23_1 rfl) rfl rfl rfl ?_
  refine doL_v (opV_load1 3 ty2 rfl rfl rfl) rfl rfl rfl ?_
  refine doL_v (opV_fieldAddr fa23_0 rfl) rfl rfl rfl ?_
  refine doL_v (opV_load1 3 ty2 rfl rfl rfl) rfl rfl rfl ?_
  refine doL_v (opV_sub rfl rfl (by first | exact i64_in ⟨by omega, by omega⟩ | rfl)) rfl rfl rfl ?_
  refine doL_v (opV_add rfl rfl (by first | exact i64_in ⟨by omega, by omega⟩ | rfl)) rfl rfl rfl ?_
  refine doL_v (opV_assign rfl) rfl rfl rfl ?_
  refine doL_nil ?_
  refine post_then ?_
  refine doC_seq ?_
  refine doC_drawn 6 mo (by kernel_rfl) ?_
  simp only [List.take_succ_cons, List.take_zero, List.drop_succ_cons, List.drop_zero]
  refine doG_v (opV_fieldAddr fa23_0 rfl) rfl rfl rfl ?_
  refine doG_v (opV_load1 3 ty2 rfl rfl rfl) rfl rfl rfl ?_
  refine doG_v (opV_move rfl) rfl rfl rfl ?_
  refine doG_v (opV_move rfl) rfl rfl rfl ?_
  refine doG_vg (F := vI) (opV_call en22 rfl (fun w _ => mRound _ _ (by first | omega | assumption | (unfold In64; omega) | decide) w)) rfl rfl rfl ?_; intro r20 hr20
  have qr20 := Int.emod_nonneg i (show a1 - a0 + 1 ≠ 0 by omega)
  have pr20 := Int.emod_lt_of_pos i (show 0 < a1 - a0 + 1 by omega)
  refine doG_v (opV_add rfl rfl (by first | exact i64_in ⟨by omega, by omega⟩ | rfl)) rfl rfl rfl ?_
  refine doG_nil ?_
  refine tail_nil ?_
  refine doL_v (opV_assign rfl) rfl rfl rfl ?_
  refine doL_nil ?_
  refine post_then ?_
  refine doC_seq ?_
  refine doC_seq ?_
  refine doC_region ?_
  refine doL_v (opV_move rfl) rfl rfl rfl ?_
  refine doL_v (opV_and rfl rfl and_1) rfl rfl rfl ?_
  refine doL_v (opV_eql rfl rfl) rfl rfl rfl ?_
  refine doL_nil ?_
  refine post_then ?_
  refine doC_cond rfl (fun hc24 => ?_) (fun hc24 => ?_)
  ·
    refine doC_seq ?_
    refine doC_region ?_
    refine doL_v (opV_move rfl) rfl rfl rfl ?_
    refine doL_v (opV_move rfl) rfl rfl rfl ?_
    refine doL_v (opV_build la23 rfl rfl) rfl rfl rfl ?_
    refine doL_store 6 ty23 rfl rfl rfl rfl rfl rfl rfl rfl ?_
    refine doL_nil ?_
    refine post_then ?_
    refine doC_ret ?_
    refine post_then_ret ?_
    refine post_rets (rs := [.cell 6 23]) rfl (resC (resIs_cell 6 rfl rfl ty23 rfl) (resN)) (congrArg (iv) (?_ : ⟨_, _⟩ = partI (⟨a0, a1⟩ : Iv) i j))
    subst_vars; first | (simp_all [partI]; done) | (simp_all [partI] <;> omega) | grind [partI]
  ·
    refine doC_skip ?_
    refine post_then ?_
    refine doC_seq ?_
    refine doC_drawn 7 mo (by kernel_rfl) ?_
    simp only [List.take_succ_cons, List.take_zero, List.drop_succ_cons, List.drop_zero]
    refine doG_v (opV_fieldAddr fa23_0 rfl) rfl rfl rfl ?_
    refine doG_v (opV_load1 3 ty2 rfl rfl rfl) rfl rfl rfl ?_
    refine doG_v (opV_move rfl) rfl rfl rfl ?_
    refine doG_v (opV_shr rfl rfl (by first | decide | omega) shr_1) rfl rfl rfl ?_
    refine doG_v (opV_move rfl) rfl rfl rfl ?_
    refine doG_vg (F := vI) (opV_call en22 rfl (fun w _ => mRound _ _ (by first | omega | assumption | (unfold In64; omega) | decide) w)) rfl rfl rfl ?_; intro r33 hr33
    have qr33 := Int.emod_nonneg (j / 2) (show a1 - a0 + 1 ≠ 0 by omega)
    have pr33 := Int.emod_lt_of_pos (j / 2) (show 0 < a1 - a0 + 1 by omega)
    refine doG_v (opV_add rfl rfl (by first | exact i64_in ⟨by omega, by omega⟩ | rfl)) rfl rfl rfl ?_
    refine doG_nil ?_
    refine tail_nil ?_
    refine doL_v (opV_assign rfl) rfl rfl rfl ?_
    refine doL_nil ?_
    refine post_then ?_
    refine doC_seq ?_
    refine doC_region ?_
    refine doL_v (opV_move rfl) rfl rfl rfl ?_
    refine doL_v (opV_move rfl) rfl rfl rfl ?_
    refine doL_v (opV_min2 rfl rfl) rfl rfl rfl ?_
    refine doL_v (opV_move rfl) rfl rfl rfl ?_
    refine doL_v (opV_move rfl) rfl rfl rfl ?_
    refine doL_v (opV_max2 rfl rfl) rfl rfl rfl ?_
    refine doL_v (opV_build la23 rfl rfl) rfl rfl rfl ?_
    refine doL_store 6 ty23 rfl rfl rfl rfl rfl rfl rfl rfl ?_
    refine doL_nil ?_
    refine post_then ?_
    refine doC_ret ?_
    refine post_rets (rs := [.cell 6 23]) rfl (resC (resIs_cell 6 rfl rfl ty23 rfl) (resN)) (congrArg (iv) (?_ : ⟨_, _⟩ = partI (⟨a0, a1⟩ : Iv) i j))
    subst_vars; first | (simp_all [partI]; done) | (simp_all [partI] <;> omega) | grind [partI]

theorem shl1 {k : Int} (h : 0 ≤ k ∧ k ≤ 62) : IntKind.i64.wrap (1 * 2 ^ min k.toNat IntKind.i64.bits) = 2 ^ k.toNat := by
  have hb : IntKind.i64.bits = 64 := rfl
  rw [show min k.toNat IntKind.i64.bits = k.toNat by omega, Int.one_mul]
  have e : (2 : Int) ^ k.toNat = ((2 ^ k.toNat : Nat) : Int) := by simp
  have p2 : (2 : Nat) ^ k.toNat ≤ 2 ^ 62 := Nat.pow_le_pow_right (by decide) (by omega)
  have p0 : 0 < (2 : Nat) ^ k.toNat := Nat.pow_pos (by decide)
  refine i64_in ?_
  rw [e]
  omega
theorem u64_in {x : Int} (h : 0 ≤ x ∧ x ≤ 9223372036854775807) : IntKind.u64.wrap x = x := by
  unfold IntKind.wrap
  have hb : IntKind.u64.bits = 64 := rfl
  have hs : IntKind.u64.signed = false := rfl
  simp only [hb, hs, Bool.false_and]
  simp
  omega
theorem kind_uint : (Try.prog).intKind 108 = .u64 := by kernel_rfl
theorem und_uint : (Try.prog).underlying 108 = some (.int ((Try.prog).intKind 108)) := by kernel_rfl
theorem opV_uint {w0 : World} {S : Slots} {H : Heap} {dd : Option Tmp} {x : Operand} {k : Int} {ty : TypeId} {pos : String} {af : Array Edge} {g : Option (Nat × Bool)} (hx : ev S x = some (.int .i64 k)) (h : 0 ≤ k ∧ k ≤ 9223372036854775807) :
    OpV Try.prog w0 S H ⟨dd, .convert 3 108 x, ty, pos, af, g⟩ (.int .u64 k) :=
  opV_of (by simp [knownB, Op.operands, hx]) rfl fun w _ => by
    have := Go.run_convert_int (P := Try.prog) w 3 108 .i64 k (by kernel_rfl) und_uint
    rw [kind_uint, u64_in h] at this
    simp [execOp, evD_of hx, this]

theorem intervalC (a : Int) (b : Int) (w : World) : Calls Try.prog 44 [.int .i64 a, .int .i64 b].toArray w (Rets (iv (intervalI a b)) (w)) := by
  refine calls_of_doC (n := 50) Try.func44 rfl rfl rfl ?_
  refine doC_seq ?_
  refine doC_region ?_
  refine doL_alloc 4 ze23 rfl rfl rfl ?_; intro b4
  refine doL_nil ?_
  refine post_then ?_
  refine doC_seq ?_
  refine doC_region ?_
  refine doL_v (opV_move rfl) rfl rfl rfl ?_
  refine doL_v (opV_shr rfl rfl (by first | decide | omega) shr_3) rfl rfl rfl ?_
  refine doL_vg (F := vI) (opV_call en22 rfl (fun w _ => mRound _ _ (by first | omega | assumption | (unfold In64; omega) | decide) w)) rfl rfl rfl ?_; intro r10 hr10
  have qr10 : 0 ≤ r10 ∧ r10 < 27 := by omega
  have kb := ivK_bnd a
  have ke : ivK a = 2 ^ (4 + r10).toNat := by rw [hr10]; rfl
  rw [ke] at kb
  refine doL_v (opV_add rfl rfl (by first | exact i64_in ⟨by omega, by omega⟩ | rfl)) rfl rfl rfl ?_
  refine doL_v (opV_uint rfl (by omega)) rfl rfl rfl ?_
  refine doL_v (opV_shl rfl rfl (by first | decide | omega) (shl1 (by omega))) rfl rfl rfl ?_
  refine doL_v (opV_assign rfl) rfl rfl rfl ?_
  refine doL_nil ?_
  refine post_then ?_
  refine doC_seq ?_
  refine doC_region ?_
  refine doL_v (opV_move rfl) rfl rfl rfl ?_
  refine doL_v (opV_move rfl) rfl rfl rfl ?_
  refine doL_v (opV_mul rfl rfl (by first | exact i64_in ⟨by omega, by omega⟩ | rfl)) rfl rfl rfl ?_
  refine doL_v (opV_add rfl rfl (by first | exact i64_in ⟨by omega, by omega⟩ | rfl)) rfl rfl rfl ?_
  refine doL_vg (F := vI) (opV_call en22 rfl (fun w _ => mRound _ _ (by first | omega | assumption | (unfold In64; omega) | decide) w)) rfl rfl rfl ?_; intro r18 hr18
  have qr18 := Int.emod_nonneg a (show 2 * 2 ^ (4 + r10).toNat + 1 ≠ 0 by omega)
  have pr18 := Int.emod_lt_of_pos a (show 0 < 2 * 2 ^ (4 + r10).toNat + 1 by omega)
  refine doL_v (opV_move rfl) rfl rfl rfl ?_
  refine doL_v (opV_sub rfl rfl (i64_in (by omega))) rfl rfl rfl ?_
  refine doL_v (opV_move rfl) rfl rfl rfl ?_
  refine doL_v (opV_move rfl) rfl rfl rfl ?_
  refine doL_v (opV_mul rfl rfl (by first | exact i64_in ⟨by omega, by omega⟩ | rfl)) rfl rfl rfl ?_
  refine doL_v (opV_add rfl rfl (by first | exact i64_in ⟨by omega, by omega⟩ | rfl)) rfl rfl rfl ?_
  refine doL_vg (F := vI) (opV_call en22 rfl (fun w _ => mRound _ _ (by first | omega | assumption | (unfold In64; omega) | decide) w)) rfl rfl rfl ?_; intro r25 hr25
  have qr25 := Int.emod_nonneg b (show 2 * 2 ^ (4 + r10).toNat + 1 ≠ 0 by omega)
  have pr25 := Int.emod_lt_of_pos b (show 0 < 2 * 2 ^ (4 + r10).toNat + 1 by omega)
  refine doL_v (opV_move rfl) rfl rfl rfl ?_
  refine doL_v (opV_sub rfl rfl (i64_in (by omega))) rfl rfl rfl ?_
  refine doL_v (opV_assign rfl) rfl rfl rfl ?_
  refine doL_v (opV_assign rfl) rfl rfl rfl ?_
  refine doL_nil ?_
  refine post_then ?_
  refine doC_seq ?_
  refine doC_seq ?_
  refine doC_region ?_
  refine doL_v (opV_move rfl) rfl rfl rfl ?_
  refine doL_v (opV_and rfl rfl and_1) rfl rfl rfl ?_
  refine doL_v (opV_eql rfl rfl) rfl rfl rfl ?_
  refine doL_nil ?_
  refine post_then ?_
  refine doC_cond rfl (fun hc30 => ?_) (fun hc30 => ?_)
  ·
    refine doC_region ?_
    refine doL_v (opV_move rfl) rfl rfl rfl ?_
    refine doL_v (opV_move rfl) rfl rfl rfl ?_
    refine doL_v (opV_shr rfl rfl (by first | decide | omega) shr_1) rfl rfl rfl ?_
    refine doL_v (opV_move rfl) rfl rfl rfl ?_
    refine doL_v (opV_quo rfl rfl (by first | decide | omega) (by first | exact (congrArg _ (tdiv_nonneg (by omega) (by omega))).trans (i64_in ⟨by omega, by omega⟩) | rfl)) rfl rfl rfl ?_
    refine doL_v (opV_add rfl rfl (by first | exact i64_in ⟨by omega, by omega⟩ | rfl)) rfl rfl rfl ?_
    refine doL_vg (F := vI) (opV_call en22 rfl (fun w _ => mRound _ _ (by first | omega | assumption | (unfold In64; omega) | decide) w)) rfl rfl rfl ?_; intro r37 hr37
    have qr37 := Int.emod_nonneg (b / 2) (show 1 + 2 ^ (4 + r10).toNat / 8 ≠ 0 by omega)
    have pr37 := Int.emod_lt_of_pos (b / 2) (show 0 < 1 + 2 ^ (4 + r10).toNat / 8 by omega)
    refine doL_v (opV_add rfl rfl (by first | exact i64_in ⟨by omega, by omega⟩ | rfl)) rfl rfl rfl ?_
    refine doL_v (opV_assign rfl) rfl rfl rfl ?_
    refine doL_nil ?_
    refine post_then ?_
    refine doC_seq ?_
    refine doC_region ?_
    refine doL_v (opV_move rfl) rfl rfl rfl ?_
    refine doL_vg (F := vI) (opV_call en86 rfl (fun w _ => rClamp _  w)) rfl rfl rfl ?_; intro r40 hr40
    refine doL_v (opV_move rfl) rfl rfl rfl ?_
    refine doL_vg (F := vI) (opV_call en86 rfl (fun w _ => rClamp _  w)) rfl rfl rfl ?_; intro r42 hr42
    refine doL_v (opV_min2 rfl rfl) rfl rfl rfl ?_
    refine doL_v (opV_move rfl) rfl rfl rfl ?_
    refine doL_vg (F := vI) (opV_call en86 rfl (fun w _ => rClamp _  w)) rfl rfl rfl ?_; intro r45 hr45
    refine doL_v (opV_move rfl) rfl rfl rfl ?_
    refine doL_vg (F := vI) (opV_call en86 rfl (fun w _ => rClamp _  w)) rfl rfl rfl ?_; intro r47 hr47
    refine doL_v (opV_max2 rfl rfl) rfl rfl rfl ?_
    refine doL_v (opV_build la23 rfl rfl) rfl rfl rfl ?_
    refine doL_store 4 ty23 rfl rfl rfl rfl rfl rfl rfl rfl ?_
    refine doL_nil ?_
    refine post_then ?_
    refine doC_ret ?_
    refine post_rets (rs := [.cell 4 23]) rfl (resC (resIs_cell 4 rfl rfl ty23 rfl) (resN)) (congrArg (iv) (?_ : ⟨_, _⟩ = intervalI a b))
    unfold intervalI; simp only [ke, hc30]; subst_vars; rfl
  ·
    refine doC_skip ?_
    refine post_then ?_
    refine doC_seq ?_
    refine doC_region ?_
    refine doL_v (opV_move rfl) rfl rfl rfl ?_
    refine doL_vg (F := vI) (opV_call en86 rfl (fun w _ => rClamp _  w)) rfl rfl rfl ?_; intro r40 hr40
    refine doL_v (opV_move rfl) rfl rfl rfl ?_
    refine doL_vg (F := vI) (opV_call en86 rfl (fun w _ => rClamp _  w)) rfl rfl rfl ?_; intro r42 hr42
    refine doL_v (opV_min2 rfl rfl) rfl rfl rfl ?_
    refine doL_v (opV_move rfl) rfl rfl rfl ?_
    refine doL_vg (F := vI) (opV_call en86 rfl (fun w _ => rClamp _  w)) rfl rfl rfl ?_; intro r45 hr45
    refine doL_v (opV_move rfl) rfl rfl rfl ?_
    refine doL_vg (F := vI) (opV_call en86 rfl (fun w _ => rClamp _  w)) rfl rfl rfl ?_; intro r47 hr47
    refine doL_v (opV_max2 rfl rfl) rfl rfl rfl ?_
    refine doL_v (opV_build la23 rfl rfl) rfl rfl rfl ?_
    refine doL_store 4 ty23 rfl rfl rfl rfl rfl rfl rfl rfl ?_
    refine doL_nil ?_
    refine post_then ?_
    refine doC_ret ?_
    refine post_rets (rs := [.cell 4 23]) rfl (resC (resIs_cell 4 rfl rfl ty23 rfl) (resN)) (congrArg (iv) (?_ : ⟨_, _⟩ = intervalI a b))
    unfold intervalI; simp only [ke, hc30]; subst_vars; rfl

end Go.Proofs.Ytonampcmhhhffaa

/- The walk of the first law of chapter 11. No condition. -/
import Derived.Test.YtonampcmhhhffaaProg
import Derived.Test.YtonampcmhhhffaaVKin
import Derived.Test.YtonampcmhhhffaaVMatLaw
import Derived.Test.YtonampcmhhhffaaVA1
import Derived.Test.YtonampcmhhhffaaVA2
import Derived.Test.YtonampcmhhhffaaVM1
import Derived.Test.YtonampcmhhhffaaVM2
import Derived.Test.YtonampcmhhhffaaVP1
import Derived.Test.YtonampcmhhhffaaVN1
import Derived.Test.YtonampcmhhhffaaVN2
import Derived.Test.YtonampcmhhhffaaVSrc
import Derived.Test.YtonampcmhhhffaaVK1
import Derived.Test.YtonampcmhhhffaaVK2
import Derived.Test.YtonampcmhhhffaaVK3
import Derived.Test.YtonampcmhhhffaaVK4
import Derived.Test.YtonampcmhhhffaaVK5
namespace Go.Proofs.Ytonampcmhhhffaa
open Go.Sx
theorem en56 : Enters Try.prog 56 := enters_of Try.func56 (by kernel_rfl) (by kernel_rfl)
theorem en57 : Enters Try.prog 57 := enters_of Try.func57 (by kernel_rfl) (by kernel_rfl)
theorem en58 : Enters Try.prog 58 := enters_of Try.func58 (by kernel_rfl) (by kernel_rfl)
theorem en60 : Enters Try.prog 60 := enters_of Try.func60 (by kernel_rfl) (by kernel_rfl)
theorem ag63 : aggB Try.prog 63 = true := by kernel_rfl
theorem ce63 (a0 a1 a2 a3 a4 a5 a6 a7 a8 a9 a10 a11 a12 a13 a14 a15 a16 a17 a18 a19 a20 a21 a22 a23 : Int) : cellsB Try.prog 5 63 [.int .i64 a0, .int .i64 a1, .int .i64 a2, .int .i64 a3, .int .i64 a4, .int .i64 a5, .int .i64 a6, .int .i64 a7, .int .i64 a8, .int .i64 a9, .int .i64 a10, .int .i64 a11, .int .i64 a12, .int .i64 a13, .int .i64 a14, .int .i64 a15, .int .i64 a16, .int .i64 a17, .int .i64 a18, .int .i64 a19, .int .i64 a20, .int .i64 a21, .int .i64 a22, .int .i64 a23] = true := by kernel_rfl

theorem eq_po {pa pb : Po} (h : pa = pb) : eqCells [.int .i64 pa.r.x.x.lo, .int .i64 pa.r.x.x.hi, .int .i64 pa.r.x.y.lo, .int .i64 pa.r.x.y.hi, .int .i64 pa.r.x.z.lo, .int .i64 pa.r.x.z.hi, .int .i64 pa.r.y.x.lo, .int .i64 pa.r.y.x.hi, .int .i64 pa.r.y.y.lo, .int .i64 pa.r.y.y.hi, .int .i64 pa.r.y.z.lo, .int .i64 pa.r.y.z.hi, .int .i64 pa.r.z.x.lo, .int .i64 pa.r.z.x.hi, .int .i64 pa.r.z.y.lo, .int .i64 pa.r.z.y.hi, .int .i64 pa.r.z.z.lo, .int .i64 pa.r.z.z.hi, .int .i64 pa.t.x.lo, .int .i64 pa.t.x.hi, .int .i64 pa.t.y.lo, .int .i64 pa.t.y.hi, .int .i64 pa.t.z.lo, .int .i64 pa.t.z.hi] [.int .i64 pb.r.x.x.lo, .int .i64 pb.r.x.x.hi, .int .i64 pb.r.x.y.lo, .int .i64 pb.r.x.y.hi, .int .i64 pb.r.x.z.lo, .int .i64 pb.r.x.z.hi, .int .i64 pb.r.y.x.lo, .int .i64 pb.r.y.x.hi, .int .i64 pb.r.y.y.lo, .int .i64 pb.r.y.y.hi, .int .i64 pb.r.y.z.lo, .int .i64 pb.r.y.z.hi, .int .i64 pb.r.z.x.lo, .int .i64 pb.r.z.x.hi, .int .i64 pb.r.z.y.lo, .int .i64 pb.r.z.y.hi, .int .i64 pb.r.z.z.lo, .int .i64 pb.r.z.z.hi, .int .i64 pb.t.x.lo, .int .i64 pb.t.x.hi, .int .i64 pb.t.y.lo, .int .i64 pb.t.y.hi, .int .i64 pb.t.z.lo, .int .i64 pb.t.z.hi] = true := by
  subst h; simp [eqCells, eqCell]

theorem scJ {w0 : Base} {id : Nat} {D : Nat → Prop} {l : List Int} {x : ScX} (h : lookR w0.R id = some (D, scF l x)) : Holds w0 (SlcIs 12 x.1.1 ((jsOf l 0 (nJ l 0)).1.map jc)) := (holds_r h).imp fun _ h => h.1.1
theorem scBox {lv : Value} {l : List Int} {aj am : Option Addr} {cj nm cm : Nat} (w : World) (hl : IntsAt w w.heap.size lv l) (hS : SlcIs 12 aj ((jsOf l 0 (nJ l 0)).1.map jc) w) :
    Calls Try.prog 57 [.agg #[.slice aj (nJ l 0) cj, .slice am nm cm], lv].toArray w (RetsF (X := Option Addr × Nat) (fun _ => True) (fun x => .slice x.1 (nJ l 0) x.2) (fun x => SlcIs 2 x.1 ((bxs l (jsOf l 0 (nJ l 0)).1 (nJ l 0)).1.map ivc)) w) := by
  have h := mkBox lv l aj am cj nm cm (jsOf l 0 (nJ l 0)).1 (by rw [jsOf_len]; have := nJ_b l 0; omega) (jsOf_b l 0 _) w hl hS
  rw [jsOf_len] at h
  exact h
theorem bxs_len {l : List Int} {js : List J} : ∀ k, k ≤ js.length → (bxs l js k).1.length = k
  | 0, _ => rfl
  | k + 1, h => by
    have hk : js[k]? = some js[k] := List.getElem?_eq_getElem (by omega)
    have h2 := bxs_len (l := l) (js := js) k (by omega)
    simp only [bxs, hk, List.length_append, List.length_singleton, h2]
theorem sc_first (l : List Int) : 0 < nJ l 0 ∧ ∃ j b, ((jsOf l 0 (nJ l 0)).1.map jc)[0]? = some (jc j) ∧ ((bxs l (jsOf l 0 (nJ l 0)).1 (nJ l 0)).1.map ivc)[0]? = some (ivc b) := by
  have hn := nJ_b l 0
  have h1 := jsOf_len l 0 (nJ l 0)
  have h2 := bxs_len (l := l) (js := (jsOf l 0 (nJ l 0)).1) (nJ l 0) (by omega)
  have e1 : (jsOf l 0 (nJ l 0)).1[0]? = some _ := List.getElem?_eq_getElem (by omega)
  have e2 : (bxs l (jsOf l 0 (nJ l 0)).1 (nJ l 0)).1[0]? = some _ := List.getElem?_eq_getElem (by omega)
  exact ⟨by omega, _, _, by rw [List.getElem?_map, e1]; exact rfl, by rw [List.getElem?_map, e2]; exact rfl⟩

theorem wKJoints (a0 a1 : Int) (lv : Value) (l : List Int) (n : Int) (nm : ByteArray) (kind par ox oy oz jlo jhi we spd acc tq : Int) (w : World) (hl : IntsAt w w.heap.size lv l) : Calls Try.prog 13 [.agg #[.string nm, .int .i64 kind, .int .i64 par, .int .i64 ox, .int .i64 oy, .int .i64 oz, .int .i64 jlo, .int .i64 jhi, .int .i64 we, .int .i64 spd, .int .i64 acc, .int .i64 tq], .agg #[.int .i64 a0, .int .i64 a1], lv, .int .i64 n].toArray w (Rets (vB (true)) (w)) := by
  refine calls_of_doC (n := 59) Try.func13 rfl rfl rfl ?_
  refine doC_seq ?_
  refine doC_region ?_
  refine doL_box 4 rfl rfl rfl rfl ?_; intro b4
  refine doL_box 5 rfl rfl rfl rfl ?_; intro b5
  refine doL_v (opV_assign rfl) rfl rfl rfl ?_
  refine doL_nil ?_
  refine post_then ?_
  refine doC_seq ?_
  refine doC_region ?_
  refine doL_v (opV_move rfl) rfl rfl rfl ?_
  refine doL_told 13 en56 rfl (fun w' k => mkScene _ l w' (intsAt_grow hl k.grow k.grow.size)) rfl rfl ?_; intro x13 Dx13 _
  unfold scV
  refine doL_alloc 9 ze78 rfl rfl rfl ?_; intro b9
  refine doL_store 9 ty78 rfl rfl rfl rfl rfl rfl rfl rfl ?_
  refine doL_nil ?_
  refine post_then ?_
  refine doC_seq ?_
  refine doC_region ?_
  refine doL_v (opV_fieldAddr fa78_0 rfl) rfl rfl rfl ?_
  refine doL_v (opV_loadA 9 ty74 rfl rfl rfl) rfl rfl rfl ?_
  refine doL_v (opV_move rfl) rfl rfl rfl ?_
  refine doL_told 17 en57 rfl (fun w' k => scBox w' (intsAt_grow hl k.grow k.grow.size) (scJ (id := 13) rfl _ _ k)) rfl rfl ?_; intro x17 Dx17 _
  obtain ⟨ab, cb⟩ := x17
  dsimp only
  obtain ⟨hn0, j, b, hj, hb⟩ := sc_first l
  refine doL_v (opV_assign rfl) rfl rfl rfl ?_
  refine doL_nil ?_
  refine post_then ?_
  refine doC_seq ?_
  refine doC_region ?_
  refine doL_v (opV_fieldAddr fa78_0 rfl) rfl rfl rfl ?_
  refine doL_v (opV_fieldAddr fa74_0 rfl) rfl rfl rfl ?_
  refine doL_v (opV_load1 9 ty71 rfl rfl rfl) rfl rfl rfl ?_
  refine doL_v (opV_indexS (e := 70) (scJ (id := 13) rfl) (by kernel_rfl) rfl rfl rfl hj hn0) rfl rfl rfl ?_
  refine doL_v (opV_loadSA (vs := [.string j.name, .int .i64 j.kind, .int .i64 j.parent, .int .i64 j.off.x, .int .i64 j.off.y, .int .i64 j.off.z, .int .i64 j.lo, .int .i64 j.hi, .int .i64 j.weight, .int .i64 j.speed, .int .i64 j.accel, .int .i64 j.torque]) 0 0 (scJ (id := 13) rfl) hj ty70 rfl rfl) rfl rfl rfl ?_
  refine doL_alloc 11 ze70 rfl rfl rfl ?_; intro b11
  refine doL_store 11 ty70 rfl rfl rfl rfl rfl rfl rfl rfl ?_
  refine doL_nil ?_
  refine post_then ?_
  refine doC_seq ?_
  refine doC_region ?_
  refine doL_v (opV_move rfl) rfl rfl rfl ?_
  refine doL_vg (F := vI) (opV_call en22 rfl (fun w _ => mRound _ _ (by first | omega | assumption | (unfold In64; omega) | decide) w)) rfl rfl rfl ?_; intro r24 hr24
  refine doL_v (opV_sub rfl rfl (by first | exact i64_in ⟨by omega, by omega⟩ | rfl)) rfl rfl rfl ?_
  refine doL_v (opV_fieldAddr fa70_1 rfl) rfl rfl rfl ?_
  refine doL_store 11 ty3 rfl rfl rfl rfl rfl rfl rfl rfl ?_
  refine doL_nil ?_
  refine post_then ?_
  refine doC_seq ?_
  refine doC_drawn 32 mo (by kernel_rfl) ?_
  simp only [List.take_succ_cons, List.take_zero, List.drop_succ_cons, List.drop_zero]
  refine doG_vg (F := vB) (opV_call en58 rfl (fun w _ => awake11   w)) rfl rfl rfl ?_; intro r27 hr27
  obtain rfl : r27 = true := hr27
  refine doG_v (opV_move rfl) rfl rfl rfl ?_
  refine doG_v (opV_loadA 4 ty70 rfl rfl rfl) rfl rfl rfl ?_
  refine doG_v (opV_loadA 5 ty23 rfl rfl rfl) rfl rfl rfl ?_
  refine doG_vg (F := po) (opV_call en59 rfl (fun w _ => kJoint _ _ _ _ _ _ _ _ _ _ _ _ _ _ w)) rfl rfl rfl ?_; intro r31 hr31
  refine doG_v (opV_loadA 4 ty70 rfl rfl rfl) rfl rfl rfl ?_
  refine doG_v (opV_loadA 5 ty23 rfl rfl rfl) rfl rfl rfl ?_
  refine doG_vg (F := po) (opV_call en60 rfl (fun w _ => rJoint _ _ _ _ _ _ _ _ _ _ _ _ _ _ w)) rfl rfl rfl ?_; intro r34 hr34
  refine doG_vg (F := vB) (opV_eqA 5 rfl ag63 rfl rfl (ce63 _ _ _ _ _ _ _ _ _ _ _ _ _ _ _ _ _ _ _ _ _ _ _ _) (ce63 _ _ _ _ _ _ _ _ _ _ _ _ _ _ _ _ _ _ _ _ _ _ _ _)) rfl rfl rfl ?_; intro r35 hr35
  obtain rfl : r35 = true := hr35.trans (eq_po (hr31.trans hr34.symm))
  refine doG_v (opV_pick_t rfl rfl rfl rfl) rfl rfl rfl ?_
  refine doG_v (opV_move rfl) rfl rfl rfl ?_
  refine doG_v (opV_loadA 11 ty70 rfl rfl rfl) rfl rfl rfl ?_
  refine doG_v (opV_move rfl) rfl rfl rfl ?_
  refine doG_v (opV_indexS (e := 23) (holds_r (id := 17) rfl) (by kernel_rfl) rfl rfl rfl hb hn0) rfl rfl rfl ?_
  refine doG_v (opV_loadSA (vs := [.int .i64 b.lo, .int .i64 b.hi]) 0 0 (holds_r (id := 17) rfl) hb ty23 rfl rfl) rfl rfl rfl ?_
  refine doG_vg (F := po) (opV_call en59 rfl (fun w _ => kJoint _ _ _ _ _ _ _ _ _ _ _ _ _ _ w)) rfl rfl rfl ?_; intro r42 hr42
  refine doG_v (opV_loadA 11 ty70 rfl rfl rfl) rfl rfl rfl ?_
  refine doG_v (opV_move rfl) rfl rfl rfl ?_
  refine doG_v (opV_indexS (e := 23) (holds_r (id := 17) rfl) (by kernel_rfl) rfl rfl rfl hb hn0) rfl rfl rfl ?_
  refine doG_v (opV_loadSA (vs := [.int .i64 b.lo, .int .i64 b.hi]) 0 0 (holds_r (id := 17) rfl) hb ty23 rfl rfl) rfl rfl rfl ?_
  refine doG_vg (F := po) (opV_call en60 rfl (fun w _ => rJoint _ _ _ _ _ _ _ _ _ _ _ _ _ _ w)) rfl rfl rfl ?_; intro r47 hr47
  refine doG_vg (F := vB) (opV_eqA 5 rfl ag63 rfl rfl (ce63 _ _ _ _ _ _ _ _ _ _ _ _ _ _ _ _ _ _ _ _ _ _ _ _) (ce63 _ _ _ _ _ _ _ _ _ _ _ _ _ _ _ _ _ _ _ _ _ _ _ _)) rfl rfl rfl ?_; intro r48 hr48
  obtain rfl : r48 = true := hr48.trans (eq_po (hr42.trans hr47.symm))
  refine doG_v (opV_pick_t rfl rfl rfl rfl) rfl rfl rfl ?_
  refine doG_v (opV_move rfl) rfl rfl rfl ?_
  refine doG_v (opV_loadA 11 ty70 rfl rfl rfl) rfl rfl rfl ?_
  refine doG_v (opV_loadA 5 ty23 rfl rfl rfl) rfl rfl rfl ?_
  refine doG_vg (F := po) (opV_call en59 rfl (fun w _ => kJoint _ _ _ _ _ _ _ _ _ _ _ _ _ _ w)) rfl rfl rfl ?_; intro r53 hr53
  refine doG_v (opV_loadA 11 ty70 rfl rfl rfl) rfl rfl rfl ?_
  refine doG_v (opV_loadA 5 ty23 rfl rfl rfl) rfl rfl rfl ?_
  refine doG_vg (F := po) (opV_call en60 rfl (fun w _ => rJoint _ _ _ _ _ _ _ _ _ _ _ _ _ _ w)) rfl rfl rfl ?_; intro r56 hr56
  refine doG_v (opV_eqA 5 rfl ag63 rfl rfl (ce63 _ _ _ _ _ _ _ _ _ _ _ _ _ _ _ _ _ _ _ _ _ _ _ _) (ce63 _ _ _ _ _ _ _ _ _ _ _ _ _ _ _ _ _ _ _ _ _ _ _ _)) rfl rfl rfl ?_
  refine doG_v (opV_pick_t rfl rfl rfl rfl) rfl rfl rfl ?_
  refine doG_nil ?_
  refine tail_nil ?_
  refine doL_v (opV_assign rfl) rfl rfl rfl ?_
  refine doL_nil ?_
  refine post_then ?_
  refine doC_ret ?_
  refine post_rets (rs := [.tmp 8]) rfl (resC (resIs_tmp rfl) (resN)) (congrArg (vB) (?_ : _ = true))
  exact eq_po (hr53.trans hr56.symm)

end Go.Proofs.Ytonampcmhhhffaa

/- Part 13 of the texts behind the last one: rules and contracts. No condition. -/
import Derived.Test.YtmbnpjpggccefaaGreatMV12
namespace Go.Proofs.YtmbnpjpggccefaaGreat
open Go.Sx
theorem en74 : jU Tryz.prog 74 := zG Tryz.func74 (by kernel_rfl) (by kernel_rfl)
theorem en109 : jU Tryz.prog 109 := zG Tryz.func109 (by kernel_rfl) (by kernel_rfl)
theorem en33 : jU Tryz.prog 33 := zG Tryz.func33 (by kernel_rfl) (by kernel_rfl)
theorem en110 : jU Tryz.prog 110 := zG Tryz.func110 (by kernel_rfl) (by kernel_rfl)
theorem en68 : jU Tryz.prog 68 := zG Tryz.func68 (by kernel_rfl) (by kernel_rfl)
theorem k4 {k : Int} (h : k = 4) : IntKind.i64.wrap (k - 4) = 0 := by rw [h]; rfl
theorem k5 {k : Int} (h : k = 5) : IntKind.i64.wrap (k - 4) = 1 := by rw [h]; rfl
theorem k6 {k : Int} (h : k = 6) : IntKind.i64.wrap (k - 4) = 2 := by rw [h]; rfl
theorem rJoint (a0 a1 : Int) (nm : ByteArray) (kind par ox oy oz jlo jhi we spd acc tq : Int) (w : World) : Calls Tryz.prog 67 [.agg #[.string nm, .int .i64 kind, .int .i64 par, .int .i64 ox, .int .i64 oy, .int .i64 oz, .int .i64 jlo, .int .i64 jhi, .int .i64 we, .int .i64 spd, .int .i64 acc, .int .i64 tq], .agg #[.int .i64 a0, .int .i64 a1]].toArray w (Rets (po (jPose kind ⟨ox, oy, oz⟩ (⟨a0, a1⟩ : Iv))) (w)) := by
 refine zX (n := 36) Tryz.func67 rfl rfl rfl ?_
 refine qK ?_
 refine qZ ?_
 refine kY 2 rfl rfl rfl rfl ?_; intro b2
 refine kY 3 rfl rfl rfl rfl ?_; intro b3
 refine yQ 4 ze77 rfl rfl rfl ?_; intro b4
 refine qJ ?_
 refine qQ ?_
 refine qK ?_
 refine qZ ?_
 refine jW (F := po) (zQ en74 rfl (fun w _ => qRest   w)) rfl rfl rfl ?_; intro r7 hr7
 refine yQ 5 ze77 rfl rfl rfl ?_; intro b5
 refine qG 5 ty77 rfl rfl rfl rfl rfl rfl rfl rfl ?_
 refine qJ ?_
 refine qQ ?_
 refine qK ?_
 refine qK ?_
 refine qZ ?_
 refine qY (qV zQW rfl) rfl rfl rfl ?_
 refine qY (zY 2 ty3 rfl rfl rfl) rfl rfl rfl ?_
 refine qJ ?_
 refine qQ ?_
 refine yJ ?_
 refine qK ?_
 refine qK ?_
 refine qZ ?_
 refine qY (uX rfl rfl) rfl rfl rfl ?_
 refine qY (qX rfl) rfl rfl rfl ?_
 refine qJ ?_
 refine qQ ?_
 refine yH rfl (fun hc10 => ?_) (fun hc10 => ?_)
 ·
  have e := of_decide_eq_true hc10
  refine yZ ?_
  refine qQ ?_
  refine yX rfl (hc10) ?_
  refine qZ ?_
  refine qY (qV zQW rfl) rfl rfl rfl ?_
  refine qY (zY 2 ty3 rfl rfl rfl) rfl rfl rfl ?_
  refine qY (jG rfl rfl (by first | exact zW ⟨by omega, by omega⟩ | rfl)) rfl rfl rfl ?_
  refine qY (zJ 3 ty71 rfl rfl rfl) rfl rfl rfl ?_
  refine jW (F := po) (zQ en109 rfl (fun w _ => qTurn _ _ _  w)) rfl rfl rfl ?_; intro r18 hr18
  refine qG 5 ty77 rfl rfl rfl rfl rfl rfl rfl rfl ?_
  refine qJ ?_
  refine zZ ?_
  refine qQ ?_
  refine qK ?_
  refine yY 6 mo (by kernel_rfl) ?_
  simp only [List.take_succ_cons, List.take_zero, List.drop_succ_cons, List.drop_zero]
  refine qH (qV zZG rfl) rfl rfl rfl ?_
  refine qH (zJ 2 ty39 rfl rfl rfl) rfl rfl rfl ?_
  refine yV (F := v3) (zQ en33 rfl (fun w _ => zYK _ _ _  w)) rfl rfl rfl ?_; intro r32 hr32
  refine yV (F := po) (zQ en110 rfl (fun w _ => zZU _ _ _ _ _ _  w)) rfl rfl rfl ?_; intro r33 hr33
  refine qH (zJ 5 ty77 rfl rfl rfl) rfl rfl rfl ?_
  refine yV (F := po) (zQ en68 rfl (fun w _ => qHK _ _ _ _ _ _ _ _ _ _ _ _ _ _ _ _ _ _ _ _ _ _ _ _ _ _ _ _ _ _ _ _ _ _ _ _ _ _ _ _ _ _ _ _ _ _ _ _  w)) rfl rfl rfl ?_; intro r35 hr35
  refine jX ?_
  refine yU ?_
  refine qG 4 ty77 rfl rfl rfl rfl rfl rfl rfl rfl ?_
  refine qJ ?_
  refine qQ ?_
  refine zV ?_
  refine zK (rs := [.cell 4 77]) rfl (resC (zU 4 rfl rfl ty77 rfl) (resN)) (congrArg (po) (?_ : ⟨⟨⟨⟨_, _⟩, ⟨_, _⟩, ⟨_, _⟩⟩, ⟨⟨_, _⟩, ⟨_, _⟩, ⟨_, _⟩⟩, ⟨⟨_, _⟩, ⟨_, _⟩, ⟨_, _⟩⟩⟩, ⟨⟨_, _⟩, ⟨_, _⟩, ⟨_, _⟩⟩⟩ = jPose kind ⟨ox, oy, oz⟩ (⟨a0, a1⟩ : Iv)))
  show r35 = _
  rw [show r35 = Po.mul r33 r18 from hr35, show r33 = Po.shift r32 from hr33, hr32, show r18 = Po.turn (kind - 1) ⟨a0, a1⟩ from hr18, ← jMot_t (k := kind) (a := ⟨a0, a1⟩) (by omega)]
  rfl
 ·
  have e := of_decide_eq_false hc10
  refine qK ?_
  refine qZ ?_
  refine qY (uX rfl rfl) rfl rfl rfl ?_
  refine qY (qX rfl) rfl rfl rfl ?_
  refine qJ ?_
  refine qQ ?_
  refine yH rfl (fun hc10_2 => ?_) (fun hc10_2 => ?_)
  ·
   have e := of_decide_eq_true hc10_2
   refine yZ ?_
   refine qQ ?_
   refine yX rfl (hc10_2) ?_
   refine qZ ?_
   refine qY (qV zQW rfl) rfl rfl rfl ?_
   refine qY (zY 2 ty3 rfl rfl rfl) rfl rfl rfl ?_
   refine qY (jG rfl rfl (by first | exact zW ⟨by omega, by omega⟩ | rfl)) rfl rfl rfl ?_
   refine qY (zJ 3 ty71 rfl rfl rfl) rfl rfl rfl ?_
   refine jW (F := po) (zQ en109 rfl (fun w _ => qTurn _ _ _  w)) rfl rfl rfl ?_; intro r18 hr18
   refine qG 5 ty77 rfl rfl rfl rfl rfl rfl rfl rfl ?_
   refine qJ ?_
   refine zZ ?_
   refine qQ ?_
   refine qK ?_
   refine yY 6 mo (by kernel_rfl) ?_
   simp only [List.take_succ_cons, List.take_zero, List.drop_succ_cons, List.drop_zero]
   refine qH (qV zZG rfl) rfl rfl rfl ?_
   refine qH (zJ 2 ty39 rfl rfl rfl) rfl rfl rfl ?_
   refine yV (F := v3) (zQ en33 rfl (fun w _ => zYK _ _ _  w)) rfl rfl rfl ?_; intro r32 hr32
   refine yV (F := po) (zQ en110 rfl (fun w _ => zZU _ _ _ _ _ _  w)) rfl rfl rfl ?_; intro r33 hr33
   refine qH (zJ 5 ty77 rfl rfl rfl) rfl rfl rfl ?_
   refine yV (F := po) (zQ en68 rfl (fun w _ => qHK _ _ _ _ _ _ _ _ _ _ _ _ _ _ _ _ _ _ _ _ _ _ _ _ _ _ _ _ _ _ _ _ _ _ _ _ _ _ _ _ _ _ _ _ _ _ _ _  w)) rfl rfl rfl ?_; intro r35 hr35
   refine jX ?_
   refine yU ?_
   refine qG 4 ty77 rfl rfl rfl rfl rfl rfl rfl rfl ?_
   refine qJ ?_
   refine qQ ?_
   refine zV ?_
   refine zK (rs := [.cell 4 77]) rfl (resC (zU 4 rfl rfl ty77 rfl) (resN)) (congrArg (po) (?_ : ⟨⟨⟨⟨_, _⟩, ⟨_, _⟩, ⟨_, _⟩⟩, ⟨⟨_, _⟩, ⟨_, _⟩, ⟨_, _⟩⟩, ⟨⟨_, _⟩, ⟨_, _⟩, ⟨_, _⟩⟩⟩, ⟨⟨_, _⟩, ⟨_, _⟩, ⟨_, _⟩⟩⟩ = jPose kind ⟨ox, oy, oz⟩ (⟨a0, a1⟩ : Iv)))
   show r35 = _
   rw [show r35 = Po.mul r33 r18 from hr35, show r33 = Po.shift r32 from hr33, hr32, show r18 = Po.turn (kind - 1) ⟨a0, a1⟩ from hr18, ← jMot_t (k := kind) (a := ⟨a0, a1⟩) (by omega)]
   rfl
  ·
   have e := of_decide_eq_false hc10_2
   refine qZ ?_
   refine qY (uX rfl rfl) rfl rfl rfl ?_
   refine qY (qX rfl) rfl rfl rfl ?_
   refine qJ ?_
   refine qQ ?_
   refine yH rfl (fun hc10_3 => ?_) (fun hc10_3 => ?_)
   ·
    have e := of_decide_eq_true hc10_3
    refine qZ ?_
    refine qY (qV zQW rfl) rfl rfl rfl ?_
    refine qY (zY 2 ty3 rfl rfl rfl) rfl rfl rfl ?_
    refine qY (jG rfl rfl (by first | exact zW ⟨by omega, by omega⟩ | rfl)) rfl rfl rfl ?_
    refine qY (zJ 3 ty71 rfl rfl rfl) rfl rfl rfl ?_
    refine jW (F := po) (zQ en109 rfl (fun w _ => qTurn _ _ _  w)) rfl rfl rfl ?_; intro r18 hr18
    refine qG 5 ty77 rfl rfl rfl rfl rfl rfl rfl rfl ?_
    refine qJ ?_
    refine zZ ?_
    refine qQ ?_
    refine qK ?_
    refine yY 6 mo (by kernel_rfl) ?_
    simp only [List.take_succ_cons, List.take_zero, List.drop_succ_cons, List.drop_zero]
    refine qH (qV zZG rfl) rfl rfl rfl ?_
    refine qH (zJ 2 ty39 rfl rfl rfl) rfl rfl rfl ?_
    refine yV (F := v3) (zQ en33 rfl (fun w _ => zYK _ _ _  w)) rfl rfl rfl ?_; intro r32 hr32
    refine yV (F := po) (zQ en110 rfl (fun w _ => zZU _ _ _ _ _ _  w)) rfl rfl rfl ?_; intro r33 hr33
    refine qH (zJ 5 ty77 rfl rfl rfl) rfl rfl rfl ?_
    refine yV (F := po) (zQ en68 rfl (fun w _ => qHK _ _ _ _ _ _ _ _ _ _ _ _ _ _ _ _ _ _ _ _ _ _ _ _ _ _ _ _ _ _ _ _ _ _ _ _ _ _ _ _ _ _ _ _ _ _ _ _  w)) rfl rfl rfl ?_; intro r35 hr35
    refine jX ?_
    refine yU ?_
    refine qG 4 ty77 rfl rfl rfl rfl rfl rfl rfl rfl ?_
    refine qJ ?_
    refine qQ ?_
    refine zV ?_
    refine zK (rs := [.cell 4 77]) rfl (resC (zU 4 rfl rfl ty77 rfl) (resN)) (congrArg (po) (?_ : ⟨⟨⟨⟨_, _⟩, ⟨_, _⟩, ⟨_, _⟩⟩, ⟨⟨_, _⟩, ⟨_, _⟩, ⟨_, _⟩⟩, ⟨⟨_, _⟩, ⟨_, _⟩, ⟨_, _⟩⟩⟩, ⟨⟨_, _⟩, ⟨_, _⟩, ⟨_, _⟩⟩⟩ = jPose kind ⟨ox, oy, oz⟩ (⟨a0, a1⟩ : Iv)))
    show r35 = _
    rw [show r35 = Po.mul r33 r18 from hr35, show r33 = Po.shift r32 from hr33, hr32, show r18 = Po.turn (kind - 1) ⟨a0, a1⟩ from hr18, ← jMot_t (k := kind) (a := ⟨a0, a1⟩) (by omega)]
    rfl
   ·
    have e := of_decide_eq_false hc10_3
    refine qK ?_
    refine qK ?_
    refine qZ ?_
    refine qY (uX rfl rfl) rfl rfl rfl ?_
    refine qY (qX rfl) rfl rfl rfl ?_
    refine qJ ?_
    refine qQ ?_
    refine yH rfl (fun hc19 => ?_) (fun hc19 => ?_)
    ·
     have e := of_decide_eq_true hc19
     refine yZ ?_
     refine qQ ?_
     refine yX rfl (hc19) ?_
     refine qK ?_
     refine qZ ?_
     refine yQ 6 ze75 rfl rfl rfl ?_; intro b6
     refine qJ ?_
     refine qQ ?_
     refine qK ?_
     refine qZ ?_
     refine qY (qV zQW rfl) rfl rfl rfl ?_
     refine qY (zY 2 ty3 rfl rfl rfl) rfl rfl rfl ?_
     refine qY (jG rfl rfl (by first | exact k4 e | exact k5 e | exact k6 e)) rfl rfl rfl ?_
     refine qY (zJ 3 ty71 rfl rfl rfl) rfl rfl rfl ?_
     refine qY (qW ar75 rfl rfl (by first | decide | omega) (by first | decide | omega)) rfl rfl rfl ?_
     refine qG 6 ty71 rfl rfl rfl rfl rfl rfl rfl rfl ?_
     refine qJ ?_
     refine qQ ?_
     refine qZ ?_
     refine qY (zJ 6 ty75 rfl rfl rfl) rfl rfl rfl ?_
     refine jW (F := po) (zQ en110 rfl (fun w _ => zZU _ _ _ _ _ _  w)) rfl rfl rfl ?_; intro r29 hr29
     refine qG 5 ty77 rfl rfl rfl rfl rfl rfl rfl rfl ?_
     refine qJ ?_
     refine zZ ?_
     refine qQ ?_
     refine qK ?_
     refine yY 6 mo (by kernel_rfl) ?_
     simp only [List.take_succ_cons, List.take_zero, List.drop_succ_cons, List.drop_zero]
     refine qH (qV zZG rfl) rfl rfl rfl ?_
     refine qH (zJ 2 ty39 rfl rfl rfl) rfl rfl rfl ?_
     refine yV (F := v3) (zQ en33 rfl (fun w _ => zYK _ _ _  w)) rfl rfl rfl ?_; intro r32 hr32
     refine yV (F := po) (zQ en110 rfl (fun w _ => zZU _ _ _ _ _ _  w)) rfl rfl rfl ?_; intro r33 hr33
     refine qH (zJ 5 ty77 rfl rfl rfl) rfl rfl rfl ?_
     refine yV (F := po) (zQ en68 rfl (fun w _ => qHK _ _ _ _ _ _ _ _ _ _ _ _ _ _ _ _ _ _ _ _ _ _ _ _ _ _ _ _ _ _ _ _ _ _ _ _ _ _ _ _ _ _ _ _ _ _ _ _  w)) rfl rfl rfl ?_; intro r35 hr35
     refine jX ?_
     refine yU ?_
     refine qG 4 ty77 rfl rfl rfl rfl rfl rfl rfl rfl ?_
     refine qJ ?_
     refine qQ ?_
     refine zV ?_
     refine zK (rs := [.cell 4 77]) rfl (resC (zU 4 rfl rfl ty77 rfl) (resN)) (congrArg (po) (?_ : ⟨⟨⟨⟨_, _⟩, ⟨_, _⟩, ⟨_, _⟩⟩, ⟨⟨_, _⟩, ⟨_, _⟩, ⟨_, _⟩⟩, ⟨⟨_, _⟩, ⟨_, _⟩, ⟨_, _⟩⟩⟩, ⟨⟨_, _⟩, ⟨_, _⟩, ⟨_, _⟩⟩⟩ = jPose kind ⟨ox, oy, oz⟩ (⟨a0, a1⟩ : Iv)))
     show r35 = _
     rw [show r35 = Po.mul r33 r29 from hr35, show r33 = Po.shift r32 from hr33, hr32, show r29 = Po.shift (V3.put (kind - 4) ⟨a0, a1⟩) from hr29.trans (by rw [e]; rfl), ← jMot_s (k := kind) (a := ⟨a0, a1⟩) (by omega)]
     rfl
    ·
     have e := of_decide_eq_false hc19
     refine qK ?_
     refine qZ ?_
     refine qY (uX rfl rfl) rfl rfl rfl ?_
     refine qY (qX rfl) rfl rfl rfl ?_
     refine qJ ?_
     refine qQ ?_
     refine yH rfl (fun hc19_2 => ?_) (fun hc19_2 => ?_)
     ·
      have e := of_decide_eq_true hc19_2
      refine yZ ?_
      refine qQ ?_
      refine yX rfl (hc19_2) ?_
      refine qK ?_
      refine qZ ?_
      refine yQ 6 ze75 rfl rfl rfl ?_; intro b6
      refine qJ ?_
      refine qQ ?_
      refine qK ?_
      refine qZ ?_
      refine qY (qV zQW rfl) rfl rfl rfl ?_
      refine qY (zY 2 ty3 rfl rfl rfl) rfl rfl rfl ?_
      refine qY (jG rfl rfl (by first | exact k4 e | exact k5 e | exact k6 e)) rfl rfl rfl ?_
      refine qY (zJ 3 ty71 rfl rfl rfl) rfl rfl rfl ?_
      refine qY (qW ar75 rfl rfl (by first | decide | omega) (by first | decide | omega)) rfl rfl rfl ?_
      refine qG 6 ty71 rfl rfl rfl rfl rfl rfl rfl rfl ?_
      refine qJ ?_
      refine qQ ?_
      refine qZ ?_
      refine qY (zJ 6 ty75 rfl rfl rfl) rfl rfl rfl ?_
      refine jW (F := po) (zQ en110 rfl (fun w _ => zZU _ _ _ _ _ _  w)) rfl rfl rfl ?_; intro r29 hr29
      refine qG 5 ty77 rfl rfl rfl rfl rfl rfl rfl rfl ?_
      refine qJ ?_
      refine zZ ?_
      refine qQ ?_
      refine qK ?_
      refine yY 6 mo (by kernel_rfl) ?_
      simp only [List.take_succ_cons, List.take_zero, List.drop_succ_cons, List.drop_zero]
      refine qH (qV zZG rfl) rfl rfl rfl ?_
      refine qH (zJ 2 ty39 rfl rfl rfl) rfl rfl rfl ?_
      refine yV (F := v3) (zQ en33 rfl (fun w _ => zYK _ _ _  w)) rfl rfl rfl ?_; intro r32 hr32
      refine yV (F := po) (zQ en110 rfl (fun w _ => zZU _ _ _ _ _ _  w)) rfl rfl rfl ?_; intro r33 hr33
      refine qH (zJ 5 ty77 rfl rfl rfl) rfl rfl rfl ?_
      refine yV (F := po) (zQ en68 rfl (fun w _ => qHK _ _ _ _ _ _ _ _ _ _ _ _ _ _ _ _ _ _ _ _ _ _ _ _ _ _ _ _ _ _ _ _ _ _ _ _ _ _ _ _ _ _ _ _ _ _ _ _  w)) rfl rfl rfl ?_; intro r35 hr35
      refine jX ?_
      refine yU ?_
      refine qG 4 ty77 rfl rfl rfl rfl rfl rfl rfl rfl ?_
      refine qJ ?_
      refine qQ ?_
      refine zV ?_
      refine zK (rs := [.cell 4 77]) rfl (resC (zU 4 rfl rfl ty77 rfl) (resN)) (congrArg (po) (?_ : ⟨⟨⟨⟨_, _⟩, ⟨_, _⟩, ⟨_, _⟩⟩, ⟨⟨_, _⟩, ⟨_, _⟩, ⟨_, _⟩⟩, ⟨⟨_, _⟩, ⟨_, _⟩, ⟨_, _⟩⟩⟩, ⟨⟨_, _⟩, ⟨_, _⟩, ⟨_, _⟩⟩⟩ = jPose kind ⟨ox, oy, oz⟩ (⟨a0, a1⟩ : Iv)))
      show r35 = _
      rw [show r35 = Po.mul r33 r29 from hr35, show r33 = Po.shift r32 from hr33, hr32, show r29 = Po.shift (V3.put (kind - 4) ⟨a0, a1⟩) from hr29.trans (by rw [e]; rfl), ← jMot_s (k := kind) (a := ⟨a0, a1⟩) (by omega)]
      rfl
     ·
      have e := of_decide_eq_false hc19_2
      refine qZ ?_
      refine qY (uX rfl rfl) rfl rfl rfl ?_
      refine qY (qX rfl) rfl rfl rfl ?_
      refine qJ ?_
      refine qQ ?_
      refine yH rfl (fun hc19_3 => ?_) (fun hc19_3 => ?_)
      ·
       have e := of_decide_eq_true hc19_3
       refine qK ?_
       refine qZ ?_
       refine yQ 6 ze75 rfl rfl rfl ?_; intro b6
       refine qJ ?_
       refine qQ ?_
       refine qK ?_
       refine qZ ?_
       refine qY (qV zQW rfl) rfl rfl rfl ?_
       refine qY (zY 2 ty3 rfl rfl rfl) rfl rfl rfl ?_
       refine qY (jG rfl rfl (by first | exact k4 e | exact k5 e | exact k6 e)) rfl rfl rfl ?_
       refine qY (zJ 3 ty71 rfl rfl rfl) rfl rfl rfl ?_
       refine qY (qW ar75 rfl rfl (by first | decide | omega) (by first | decide | omega)) rfl rfl rfl ?_
       refine qG 6 ty71 rfl rfl rfl rfl rfl rfl rfl rfl ?_
       refine qJ ?_
       refine qQ ?_
       refine qZ ?_
       refine qY (zJ 6 ty75 rfl rfl rfl) rfl rfl rfl ?_
       refine jW (F := po) (zQ en110 rfl (fun w _ => zZU _ _ _ _ _ _  w)) rfl rfl rfl ?_; intro r29 hr29
       refine qG 5 ty77 rfl rfl rfl rfl rfl rfl rfl rfl ?_
       refine qJ ?_
       refine zZ ?_
       refine qQ ?_
       refine qK ?_
       refine yY 6 mo (by kernel_rfl) ?_
       simp only [List.take_succ_cons, List.take_zero, List.drop_succ_cons, List.drop_zero]
       refine qH (qV zZG rfl) rfl rfl rfl ?_
       refine qH (zJ 2 ty39 rfl rfl rfl) rfl rfl rfl ?_
       refine yV (F := v3) (zQ en33 rfl (fun w _ => zYK _ _ _  w)) rfl rfl rfl ?_; intro r32 hr32
       refine yV (F := po) (zQ en110 rfl (fun w _ => zZU _ _ _ _ _ _  w)) rfl rfl rfl ?_; intro r33 hr33
       refine qH (zJ 5 ty77 rfl rfl rfl) rfl rfl rfl ?_
       refine yV (F := po) (zQ en68 rfl (fun w _ => qHK _ _ _ _ _ _ _ _ _ _ _ _ _ _ _ _ _ _ _ _ _ _ _ _ _ _ _ _ _ _ _ _ _ _ _ _ _ _ _ _ _ _ _ _ _ _ _ _  w)) rfl rfl rfl ?_; intro r35 hr35
       refine jX ?_
       refine yU ?_
       refine qG 4 ty77 rfl rfl rfl rfl rfl rfl rfl rfl ?_
       refine qJ ?_
       refine qQ ?_
       refine zV ?_
       refine zK (rs := [.cell 4 77]) rfl (resC (zU 4 rfl rfl ty77 rfl) (resN)) (congrArg (po) (?_ : ⟨⟨⟨⟨_, _⟩, ⟨_, _⟩, ⟨_, _⟩⟩, ⟨⟨_, _⟩, ⟨_, _⟩, ⟨_, _⟩⟩, ⟨⟨_, _⟩, ⟨_, _⟩, ⟨_, _⟩⟩⟩, ⟨⟨_, _⟩, ⟨_, _⟩, ⟨_, _⟩⟩⟩ = jPose kind ⟨ox, oy, oz⟩ (⟨a0, a1⟩ : Iv)))
       show r35 = _
       rw [show r35 = Po.mul r33 r29 from hr35, show r33 = Po.shift r32 from hr33, hr32, show r29 = Po.shift (V3.put (kind - 4) ⟨a0, a1⟩) from hr29.trans (by rw [e]; rfl), ← jMot_s (k := kind) (a := ⟨a0, a1⟩) (by omega)]
       rfl
      ·
       have e := of_decide_eq_false hc19_3
       refine yZ ?_
       refine zZ ?_
       refine qQ ?_
       refine qK ?_
       refine yY 6 mo (by kernel_rfl) ?_
       simp only [List.take_succ_cons, List.take_zero, List.drop_succ_cons, List.drop_zero]
       refine qH (qV zZG rfl) rfl rfl rfl ?_
       refine qH (zJ 2 ty39 rfl rfl rfl) rfl rfl rfl ?_
       refine yV (F := v3) (zQ en33 rfl (fun w _ => zYK _ _ _  w)) rfl rfl rfl ?_; intro r32 hr32
       refine yV (F := po) (zQ en110 rfl (fun w _ => zZU _ _ _ _ _ _  w)) rfl rfl rfl ?_; intro r33 hr33
       refine qH (zJ 5 ty77 rfl rfl rfl) rfl rfl rfl ?_
       refine yV (F := po) (zQ en68 rfl (fun w _ => qHK _ _ _ _ _ _ _ _ _ _ _ _ _ _ _ _ _ _ _ _ _ _ _ _ _ _ _ _ _ _ _ _ _ _ _ _ _ _ _ _ _ _ _ _ _ _ _ _  w)) rfl rfl rfl ?_; intro r35 hr35
       refine jX ?_
       refine yU ?_
       refine qG 4 ty77 rfl rfl rfl rfl rfl rfl rfl rfl ?_
       refine qJ ?_
       refine qQ ?_
       refine zV ?_
       refine zK (rs := [.cell 4 77]) rfl (resC (zU 4 rfl rfl ty77 rfl) (resN)) (congrArg (po) (?_ : ⟨⟨⟨⟨_, _⟩, ⟨_, _⟩, ⟨_, _⟩⟩, ⟨⟨_, _⟩, ⟨_, _⟩, ⟨_, _⟩⟩, ⟨⟨_, _⟩, ⟨_, _⟩, ⟨_, _⟩⟩⟩, ⟨⟨_, _⟩, ⟨_, _⟩, ⟨_, _⟩⟩⟩ = jPose kind ⟨ox, oy, oz⟩ (⟨a0, a1⟩ : Iv)))
       show r35 = _
       rw [show r35 = Po.mul r33 r7 from hr35, show r33 = Po.shift r32 from hr33, hr32, show r7 = Po.rest from hr7, ← jMot_r (k := kind) (a := ⟨a0, a1⟩) (by omega) (by omega)]
       rfl
end Go.Proofs.YtmbnpjpggccefaaGreat
namespace Go.Proofs.YtmbnpjpggccefaaGreat
open Go.Sx
theorem en45 : jU Tryz.prog 45 := zG Tryz.func45 (by kernel_rfl) (by kernel_rfl)
theorem en66 : jU Tryz.prog 66 := zG Tryz.func66 (by kernel_rfl) (by kernel_rfl)
theorem en67 : jU Tryz.prog 67 := zG Tryz.func67 (by kernel_rfl) (by kernel_rfl)
theorem sl83 : slcB Tryz.prog 83 77 24 = true := by kernel_rfl
def plC (ps : List Po) : List Value := (ps.map pc).flatten
theorem plC_snoc (ps : List Po) (p : Po) : plC (ps ++ [p]) = plC ps ++ pc p := by simp [plC]
theorem pl_slc {m e cap k : Nat} {a : Option Addr} {ps : List Po} {w : World} (hl : ps.length = k) (h : OwnF m e 24 a cap k (plC ps) w) : SlcIs 24 a (ps.map pc) w :=
 zZQ (rows := ps.map pc) (fun r hr => by obtain ⟨p, _, rfl⟩ := List.mem_map.1 hr; rfl) (by rw [List.length_map, hl]; exact h)
theorem pl_at {ps : List Po} {i : Nat} (h : i < ps.length) : (ps.map pc)[i]? = some (pc (ps.getD i Po.rest)) := by
 rw [List.getElem?_map]
 simp [List.getD_eq_getElem?_getD, h]
theorem rLinks  (aj am ab : Option Addr) (cj nm cm cb n : Nat) (js : List J) (bx : List Iv) (hn : n ≤ 1000) (hjn : js.length = n) (hbn : bx.length = n) (hpar : ∀ (k : Nat) (j : J), js[k]? = some j → -1 ≤ j.parent ∧ j.parent < k) (w : World) (hS : SlcIs 12 aj (js.map jc) w) (hT : SlcIs 2 ab (bx.map ivc) w) (hC : ∀ w' : World, Grow w w' → Calls Tryz.prog 45 [.agg #[.slice aj n cj, .slice am nm cm]].toArray w' (Rets (vI (0 : Int)) w')) (hB : ∀ w' : World, Grow w w' → Calls Tryz.prog 66 [.agg #[.slice aj n cj, .slice am nm cm], .slice ab n cb].toArray w' (Rets (vB true) w')) : Calls Tryz.prog 36 [.agg #[.slice aj n cj, .slice am nm cm], .slice ab n cb].toArray w (RetsF (X := Option Addr × Nat) (fun _ => True) (fun x => .slice x.1 n x.2) (fun x => OwnF 0 77 24 x.1 x.2 n (plC (lks js bx n))) w) := by
 refine zX (n := 56) Tryz.func36 rfl rfl rfl ?_
 refine qK ?_
 refine qZ ?_
 refine kY 2 rfl rfl rfl rfl ?_; intro b2
 refine qY (qX rfl) rfl rfl rfl ?_
 refine qJ ?_
 refine qQ ?_
 refine qK ?_
 refine qK ?_
 refine qZ ?_
 refine qY (zJ 2 ty25 rfl rfl rfl) rfl rfl rfl ?_
 refine jW (F := vI) (zQ en45 rfl (fun w' k => hC w' k.grow)) rfl rfl rfl ?_; intro r9 hr9
 refine qY (opV_neq rfl rfl) rfl rfl rfl ?_
 refine qY (qU rfl) rfl rfl rfl ?_
 refine doL_false 11 rfl (by rw [hr9]; rfl) ?_
 refine qY (zJ 2 ty25 rfl rfl rfl) rfl rfl rfl ?_
 refine qY (qU rfl) rfl rfl rfl ?_
 refine jW (F := vB) (zQ en66 rfl (fun w' k => hB w' k.grow)) rfl rfl rfl ?_; intro r14 hr14
 refine qY (qUX rfl) rfl rfl rfl ?_
 refine qY (uV rfl rfl rfl rfl) rfl rfl rfl ?_
 refine qJ ?_
 refine qQ ?_
 refine qJX rfl (by rw [hr14]; rfl) ?_
 refine yZ ?_
 refine qQ ?_
 refine qK ?_
 refine qZ ?_
 refine qY (qX rfl) rfl rfl rfl ?_
 refine qJ ?_
 refine qQ ?_
 refine qK ?_
 refine qK ?_
 refine doC_own 100 77 24 ?_
 refine qZ ?_
 refine qY (qX rfl) rfl rfl rfl ?_
 refine qJ ?_
 refine qQ ?_
 refine yJ ?_
 refine doC_loopK [1, 2] [2] (α := Nat × Option Addr × Nat × List Po) (fun x => n - x.1) (fun x => x.1 ≤ n ∧ lks js bx x.1 = x.2.2.2 ∧ x.2.2.2.length = x.1) (fun x => ⟨w, [(100, ownD x.2.1, OwnF 0 77 24 x.2.1 x.2.2.1 x.1 (plC x.2.2.2))]⟩) (fun x => [(5, .slice x.2.1 x.1 x.2.2.1), (6, .int .i64 (x.1 : Int))]) (fun _ => []) (0, none, 0, []) rfl rfl ?_ ?_ ?_ ?_ rfl ?_
 ·
  exact ⟨Nat.zero_le _, rfl, rfl⟩
 ·
  exact rfl
 ·
  repeat' first | exact trivial | exact True.intro | refine ⟨rfl, ?_⟩
 ·
  repeat' first | exact trivial | exact True.intro | refine ⟨rfl, ?_⟩
 rintro ⟨k, a, cap, ps⟩ ⟨hk, hps, hlen⟩
 dsimp only at hk hps hlen ⊢
 refine qK ?_
 refine qK ?_
 refine qZ ?_
 refine qY (qU rfl) rfl rfl rfl ?_
 refine qY (qU rfl) rfl rfl rfl ?_
 refine qY (qYU sl30 rfl) rfl rfl rfl ?_
 refine qY (kX rfl rfl) rfl rfl rfl ?_
 refine qJ ?_
 refine qQ ?_
 refine yH rfl (fun hc20 => ?_) (fun hc20 => ?_)
 ·
  have h2 : k < n := by have := of_decide_eq_true hc20; omega
  obtain ⟨j, hjk⟩ : ∃ j, js[k]? = some j := ⟨_, List.getElem?_eq_getElem (by omega)⟩
  obtain ⟨b, hak⟩ : ∃ b, bx[k]? = some b := ⟨_, List.getElem?_eq_getElem (by omega)⟩
  have hj : (js.map jc)[k]? = some (jc j) := by rw [List.getElem?_map, hjk]; rfl
  have hbk : (bx.map ivc)[k]? = some (ivc b) := by rw [List.getElem?_map, hak]; rfl
  have hpj := hpar _ j hjk
  refine yZ ?_
  refine qQ ?_
  refine qK ?_
  refine yJ ?_
  refine qK ?_
  refine yY 11 mo (by kernel_rfl) ?_
  simp only [List.take_succ_cons, List.take_zero, List.drop_succ_cons, List.drop_zero]
  refine qH (qV zZY rfl) rfl rfl rfl ?_
  refine qH (zY 2 ty22 rfl rfl rfl) rfl rfl rfl ?_
  refine qH (qU rfl) rfl rfl rfl ?_
  refine qH (qYG (e := 70) (qQJ hS) (by kernel_rfl) rfl rfl rfl hj h2) rfl rfl rfl ?_
  refine qH (opV_loadSA (vs := [.string j.name, .int .i64 j.kind, .int .i64 j.parent, .int .i64 j.off.x, .int .i64 j.off.y, .int .i64 j.off.z, .int .i64 j.lo, .int .i64 j.hi, .int .i64 j.weight, .int .i64 j.speed, .int .i64 j.accel, .int .i64 j.torque]) k 0 (qQJ hS) hj ty70 rfl rfl) rfl rfl rfl ?_
  refine qH (qU rfl) rfl rfl rfl ?_
  refine qH (qU rfl) rfl rfl rfl ?_
  refine qH (qYG (e := 71) (qQJ hT) (by kernel_rfl) rfl rfl rfl hbk h2) rfl rfl rfl ?_
  refine qH (opV_loadSA (vs := [.int .i64 b.lo, .int .i64 b.hi]) k 0 (qQJ hT) hbk ty71 rfl rfl) rfl rfl rfl ?_
  refine yV (F := po) (zQ en67 rfl (fun w _ => rJoint _ _ _ _ _ _ _ _ _ _ _ _ _ _ w)) rfl rfl rfl ?_; intro r32 hr32
  refine doG_alloc ze77 rfl rfl rfl rfl ?_
  refine jX ?_
  refine qVK 7 rfl ?_; intro b7_2
  refine yU ?_
  refine qG 7 ty77 rfl rfl rfl rfl rfl rfl rfl rfl ?_
  refine qJ ?_
  refine qQ ?_
  refine qK ?_
  refine qK ?_
  refine qZ ?_
  refine qY (qV zZY rfl) rfl rfl rfl ?_
  refine qY (zY 2 ty22 rfl rfl rfl) rfl rfl rfl ?_
  refine qY (qU rfl) rfl rfl rfl ?_
  refine qY (qYG (e := 70) (qQJ hS) (by kernel_rfl) rfl rfl rfl hj h2) rfl rfl rfl ?_
  refine qY (opV_fieldS (qQJ hS) hj fa70_2 rfl) rfl rfl rfl ?_
  refine qY (opV_loadS1 k 2 (qQJ hS) hj ty3 rfl rfl) rfl rfl rfl ?_
  refine qY (opV_neq rfl rfl) rfl rfl rfl ?_
  refine qJ ?_
  refine qQ ?_
  refine yH rfl (fun hc39 => ?_) (fun hc39 => ?_)
  ·
   have hp : ¬ j.parent = -1 := by simpa using hc39
   have hpl : j.parent.toNat < ps.length := by omega
   have hpn : j.parent = ((j.parent.toNat : Nat) : Int) := by omega
   refine yY 11 mo (by kernel_rfl) ?_
   simp only [List.take_succ_cons, List.take_zero, List.drop_succ_cons, List.drop_zero]
   refine qH (qU rfl) rfl rfl rfl ?_
   refine qH (qV zZY rfl) rfl rfl rfl ?_
   refine qH (zY 2 ty22 rfl rfl rfl) rfl rfl rfl ?_
   refine qH (qU rfl) rfl rfl rfl ?_
   refine qH (qYG (e := 70) (qQJ hS) (by kernel_rfl) rfl rfl rfl hj h2) rfl rfl rfl ?_
   refine qH (opV_fieldS (qQJ hS) hj fa70_2 rfl) rfl rfl rfl ?_
   refine qH (opV_loadS1 k 2 (qQJ hS) hj ty3 rfl rfl) rfl rfl rfl ?_
   refine qH (qYG (e := 77) ((zQG (id := 100) rfl).imp (fun _ h => pl_slc hlen h)) (by kernel_rfl) rfl rfl hpn (pl_at hpl) (by omega)) rfl rfl rfl ?_
   refine qH (opV_loadSA (vs := pc (ps.getD j.parent.toNat Po.rest)) j.parent.toNat 0 ((zQG (id := 100) rfl).imp (fun _ h => pl_slc hlen h)) (pl_at hpl) ty77 rfl rfl) rfl rfl rfl ?_
   refine qH (zJ 7 ty77 rfl rfl rfl) rfl rfl rfl ?_
   refine yV (F := po) (zQ en68 rfl (fun w _ => qHK _ _ _ _ _ _ _ _ _ _ _ _ _ _ _ _ _ _ _ _ _ _ _ _ _ _ _ _ _ _ _ _ _ _ _ _ _ _ _ _ _ _ _ _ _ _ _ _  w)) rfl rfl rfl ?_; intro r50 hr50
   refine jX ?_
   refine yU ?_
   refine qG 7 ty77 rfl rfl rfl rfl rfl rfl rfl rfl ?_
   refine qJ ?_
   refine qQ ?_
   refine qZ ?_
   refine qY (qU rfl) rfl rfl rfl ?_
   refine qY (zJ 7 ty77 rfl rfl rfl) rfl rfl rfl ?_
   refine qXX 53 sl83 ze77 rfl rfl rfl rfl rfl rfl rfl rfl ?_; intro b53
   refine qXW (id2 := 53) 100 app83 rfl rfl rfl rfl rfl rfl rfl (by omega) (by omega) rfl rfl ?_; intro a54 c54 R54 hR54
   obtain rfl := Option.some.inj hR54
   refine qY (qX rfl) rfl rfl rfl ?_
   refine qJ ?_
   refine zZ ?_
   refine qQ ?_
   refine qZ ?_
   refine qY (qU rfl) rfl rfl rfl ?_
   refine qY (yK rfl rfl (zQZ (by omega))) rfl rfl rfl ?_
   refine qY (qX rfl) rfl rfl rfl ?_
   refine qJ ?_
   refine qYV (k + 1, a54, c54, ps ++ [r50]) (by refine ⟨?_, ?_, ?_⟩ <;> dsimp only; omega; rw [lks_succ hjk hak, hps]; exact congrArg (fun x => ps ++ [x]) ((if_neg hp).trans (by rw [show r50 = Po.mul (ps.getD j.parent.toNat Po.rest) r32 from hr50, hr32]; try rfl)); simp [hlen]) (by show n - (k + 1) < n - k; omega) (by dsimp only; rw [plC_snoc]; rfl) ?_ ?_ rfl
   repeat' first | exact trivial | exact True.intro | refine ⟨rfl, ?_⟩
  ·
   have hp : j.parent = -1 := by simpa using hc39
   refine yZ ?_
   refine qQ ?_
   refine qZ ?_
   refine qY (qU rfl) rfl rfl rfl ?_
   refine qY (zJ 7 ty77 rfl rfl rfl) rfl rfl rfl ?_
   refine qXX 53 sl83 ze77 rfl rfl rfl rfl rfl rfl rfl rfl ?_; intro b53
   refine qXW (id2 := 53) 100 app83 rfl rfl rfl rfl rfl rfl rfl (by omega) (by omega) rfl rfl ?_; intro a54 c54 R54 hR54
   obtain rfl := Option.some.inj hR54
   refine qY (qX rfl) rfl rfl rfl ?_
   refine qJ ?_
   refine zZ ?_
   refine qQ ?_
   refine qZ ?_
   refine qY (qU rfl) rfl rfl rfl ?_
   refine qY (yK rfl rfl (zQZ (by omega))) rfl rfl rfl ?_
   refine qY (qX rfl) rfl rfl rfl ?_
   refine qJ ?_
   refine qYV (k + 1, a54, c54, ps ++ [r32]) (by refine ⟨?_, ?_, ?_⟩ <;> dsimp only; omega; rw [lks_succ hjk hak, hps]; exact congrArg (fun x => ps ++ [x]) ((if_pos hp).trans hr32.symm); simp [hlen]) (by show n - (k + 1) < n - k; omega) (by dsimp only; rw [plC_snoc]; rfl) ?_ ?_ rfl
   repeat' first | exact trivial | exact True.intro | refine ⟨rfl, ?_⟩
 ·
  obtain rfl : k = n := by have := of_decide_eq_false hc20; omega
  refine qUK ?_
  refine jV ?_
  refine jV ?_
  refine uY ?_
  refine qQ ?_
  refine qK ?_
  refine qZ ?_
  refine qY (qU rfl) rfl rfl rfl ?_
  refine qY (qX rfl) rfl rfl rfl ?_
  refine qJ ?_
  refine qQ ?_
  refine zV ?_
  refine qKZ (rs := [.tmp 4]) rfl (resC (kQ rfl) (resN)) rfl ?_
  intro w2 k2
  obtain ⟨_, q2, q3⟩ := k2.facts _ List.mem_cons_self
  exact ⟨(a, cap), trivial, rfl, k2.grow, ownD a, own_dep _ _ _ _ _ _ _, fun z hz => ⟨(q2 z hz).1, (q2 z hz).2.1⟩, by dsimp only; rw [hps]; exact q3⟩
end Go.Proofs.YtmbnpjpggccefaaGreat
namespace Go.Proofs.YtmbnpjpggccefaaGreat.Nf
open Go.Rx Rt Go.Sx Go.RowKit Od Ov Pc Na Nb Nc Nee
theorem cj_par {i : Int} {j : J} (h : cjT (fun e => e) i j = 0) : -1 ≤ j.parent ∧ j.parent < i := by
 unfold cjT at h
 by_cases h1 : j.kind < 0
 ·rw [decide_eq_true h1, cond_true] at h; exact absurd h (by decide)
 by_cases h2 : 6 < j.kind
 ·rw [decide_eq_false h1, cond_false, decide_eq_true h2, cond_true] at h; exact absurd h (by decide)
 by_cases h3 : j.parent < -1
 ·rw [decide_eq_false h1, cond_false, decide_eq_false h2, cond_false, decide_eq_true h3, cond_true] at h; exact absurd h (by decide)
 by_cases h4 : i ≤ j.parent
 ·rw [decide_eq_false h1, cond_false, decide_eq_false h2, cond_false, decide_eq_false h3, cond_false, decide_eq_true h4, cond_true] at h; exact absurd h (by decide)
 omega
theorem jerr_cj {js : Nat → J} {n i : Nat} (h : jErr js n i = 0) : cjT (fun e => e) i (js i) = 0 := by
 unfold jErr at h
 cases h1 : nmB (js i).name with
 | false => rw [h1] at h; exact absurd (show (802 : Int) = 0 from h) (by decide)
 | true =>
  cases h2 : dup js (js i).name i 0 with
  | true => rw [h1, h2] at h; exact absurd (show (802 : Int) = 0 from h) (by decide)
  | false => rw [h1, h2] at h; exact h
theorem je_all {js : Nat → J} {n : Nat} : ∀ {k p : Nat}, jE js n k p = 0 → ∀ i, p ≤ i → i < p + k → jErr js n i = 0
 | 0, p, _, i, h1, h2 => by omega
 | k + 1, p, h, i, h1, h2 => by
  unfold jE at h
  by_cases hp : jErr js n p = 0
  ·rw [decide_eq_true hp, cond_true] at h
   rcases Nat.eq_or_lt_of_le h1 with e | e
   ·exact e ▸ hp
   ·exact je_all h i e (by omega)
  ·rw [decide_eq_false hp, cond_false] at h
   exact absurd h hp
theorem rerr_je {js : Nat → J} {ms : Nat → Ms} {n m : Nat} (h : rErr js ms n m = 0) : jE js n n 0 = 0 := by
 have hn := rerr_n h
 unfold rErr at h
 rw [decide_eq_false (show ¬ (n : Int) = 0 by omega), decide_eq_false (show ¬ 10 < (n : Int) by omega), cond_false, cond_false] at h
 by_cases hj : jE js n n 0 = 0
 ·exact hj
 ·rw [decide_eq_false hj, cond_false] at h; exact h
theorem rerr_par {js : Nat → J} {ms : Nat → Ms} {n m : Nat} (h : rErr js ms n m = 0) : ∀ i, i < n → -1 ≤ (js i).parent ∧ (js i).parent < (i : Int) := fun i hi =>
 cj_par (jerr_cj (je_all (rerr_je h) i (Nat.zero_le _) (by omega)))
def jl (js : Nat → J) (n : Nat) : List J := (List.range n).map js
def ml (ms : Nat → Ms) (m : Nat) : List Ms := (List.range m).map ms
def bl (bx : Nat → Iv) (k : Nat) : List Iv := (List.range k).map bx
theorem jl_e (js : Nat → J) (n : Nat) : (jl js n).map jp = (List.range n).map (fJ js) := by unfold jl; rw [List.map_map]; rfl
theorem ml_e (ms : Nat → Ms) (m : Nat) : (ml ms m).map mp = (List.range m).map (fM ms) := by unfold ml; rw [List.map_map]; rfl
theorem bl_e (bx : Nat → Iv) (k : Nat) : (bl bx k).map Rx.ivC = (List.range k).map (fB bx) := by unfold bl; rw [List.map_map]; rfl
theorem jl_len (js : Nat → J) (n : Nat) : (jl js n).length = n := by simp [jl]
theorem ml_len (ms : Nat → Ms) (m : Nat) : (ml ms m).length = m := by simp [ml]
theorem bl_len (bx : Nat → Iv) (k : Nat) : (bl bx k).length = k := by simp [bl]
theorem jl_at {js : Nat → J} {n i : Nat} {j : J} (h : (jl js n)[i]? = some j) : i < n ∧ j = js i := by
 have hl := (List.getElem?_eq_some_iff.1 h).1
 rw [jl_len] at hl
 unfold jl at h
 rw [List.getElem?_map, List.getElem?_range hl] at h
 cases h
 exact ⟨hl, rfl⟩
theorem rob_lf {js : Nat → J} {ms : Nat → Ms} {n m : Nat} {F : Nat → Prop} {w : World} {v : Value} (hF : ∀ k, F k → k < w.heap.size) (h : RP F w (.a [.lf n (fJ js), .lf m (fM ms)]) v) : ∃ aj cj am cm, v = .agg #[.slice aj n cj, .slice am m cm] ∧ SlcIs 12 aj ((jl js n).map jc) w ∧ SlcIs 5 am ((ml ms m).map mc) w := by
 obtain ⟨vs, rfl, ha⟩ := rp_parts h
 obtain ⟨v1, vs, rfl, h1, ha⟩ := qJU ha
 obtain ⟨v2, vs, rfl, h2, ha⟩ := qJU ha
 obtain rfl := al_unnil ha
 obtain ⟨aj, cj, rfl, _, hj⟩ := slc_told (sz := 12) (g := jc) (fun _ => rfl) (fun _ => rfl) (jl_len js n) hF (rp_l_lf (jl_e js n) h1)
 obtain ⟨am, cm, rfl, _, hm⟩ := slc_told (sz := 5) (g := mc) (fun _ => rfl) (fun _ => rfl) (ml_len ms m) hF (rp_l_lf (ml_e ms m) h2)
 exact ⟨aj, cj, am, cm, rfl, hj, hm⟩
theorem box_lf {bx : Nat → Iv} {k : Nat} {F : Nat → Prop} {w : World} {v : Value} (hF : ∀ k, F k → k < w.heap.size) (h : RP F w (.lf k (fB bx)) v) : ∃ a c, v = .slice a k c ∧ SlcIs 2 a ((bl bx k).map ivc) w := by
 obtain ⟨a, c, rfl, _, hS⟩ := slc_told (sz := 2) (g := ivc) (fun _ => rfl) (fun _ => rfl) (bl_len bx k) hF (rp_l_lf (bl_e bx k) h)
 exact ⟨a, c, rfl, hS⟩
def LK (js : Nat → J) (bx : Nat → Iv) (n : Nat) : List Po := lks (jl js n) (bl bx n) n
def LP (js : Nat → J) (bx : Nat → Iv) (n : Nat) : Nat → Po := fun i => (LK js bx n).getD i Po.rest
def fP (P : Nat → Po) : Nat → List PV := fun v => Rx.poC (P v)
theorem LK_len (js : Nat → J) (bx : Nat → Iv) (n : Nat) : (LK js bx n).length = n := lks_len _ (by rw [jl_len]; exact Nat.le_refl _) (by rw [bl_len]; exact Nat.le_refl _)
theorem LK_e (js : Nat → J) (bx : Nat → Iv) (n : Nat) : (LK js bx n).map Rx.poC = (List.range n).map (fP (LP js bx n)) := by
 have := rows_fn Po.rest Rx.poC (LK js bx n)
 rw [LK_len] at this
 exact this
theorem snd_kl (js : Nat → J) (ms : Nat → Ms) (bx : Nat → Iv) (n m : Nat) (hn : n ≤ 1000) (hp : ∀ i, i < n → -1 ≤ (js i).parent ∧ (js i).parent < (i : Int)) : SndA1 Tryz.prog 65 [.a [.lf n (fJ js), .lf m (fM ms)], .lf n (fB bx)] (.v (.lf n (fP (LP js bx n)))) := by
 refine snd_res (Same.lf (LK_e js bx n)) (snd_told (X := Nat) (Φ := fun _ => True) (V := fun b => .slice (some ⟨b, 0, none⟩) n n) (G := fun b => SlcIs 24 (some ⟨b, 0, none⟩) ((LK js bx n).map pc)) (zG Tryz.func65 (by kernel_rfl) (by kernel_rfl)) (fun w F vals hF hal => ?_) (fun x w D F hP hG hd hF => rp_told (g := pc) (sz := 24) (fun _ => rfl) (fun _ => rfl) (LK_len js bx n) (Nat.le_refl _) (by decide) hd hG (fun _ h => h) hF))
 obtain ⟨v1, vs, rfl, h1, hal⟩ := qJU hal
 obtain ⟨v2, vs, rfl, h2, hal⟩ := qJU hal
 obtain rfl := al_unnil hal
 obtain ⟨aj, cj, am, cm, rfl, hj, hm'⟩ := rob_lf hF h1
 obtain ⟨ab, cb, rfl, hS⟩ := box_lf hF h2
 exact kLinks aj am ab cj m cm cb n (jl js n) (bl bx n) hn (jl_len js n) (bl_len bx n) (fun i j h => by obtain ⟨hi, rfl⟩ := jl_at h; exact hp i hi) w hj hS
theorem snd_rl (js : Nat → J) (ms : Nat → Ms) (bx : Nat → Iv) (n m : Nat) (h0 : rErr js ms n m = 0) (hv : allV bx n = true) : SndA1 Tryz.prog 36 [.a [.lf n (fJ js), .lf m (fM ms)], .lf n (fB bx)] (.v (.lf n (fP (LP js bx n)))) := by
 have hn := rerr_n h0
 have hp := rerr_par h0
 have hl : ((LK js bx n).map Rx.poC).length = n := by rw [List.length_map]; exact LK_len js bx n
 refine snd_res (Same.lf (LK_e js bx n)) (snd_own (e := 77) (sz := 24) (snd_toldOw (Φ := fun _ => True) (rows := (LK js bx n).map Rx.poC) (zG Tryz.func36 (by kernel_rfl) (by kernel_rfl)) (flat_map (fun _ => rfl) _) (by decide) (fun w F vals hF hal => ?_)))
 have hal0 := hal
 obtain ⟨v1, vs, rfl, h1, hal⟩ := qJU hal
 obtain ⟨v2, vs, rfl, h2, hal⟩ := qJU hal
 obtain rfl := al_unnil hal
 have up : ∀ w' : World, Grow w w' → ∀ {p : PV} {v : Value}, RP F w p v → RP (fun k => k < w'.heap.size) w' p v := fun w' g p v h => h.mono fun k hk => ⟨Nat.lt_of_lt_of_le (hF k hk) g.size, g.block k (hF k hk)⟩
 have hC := fun (w' : World) (g : Grow w w') => rets_of_sndR (w := w') (snd_crf js ms n m) rfl (qVJ (up w' g h1) al_nil)
 have hB := fun (w' : World) (g : Grow w w') => rets_of_sndR (w := w') (snd_isR js ms bx n m n (by omega)) rfl (qVJ (up w' g h1) (qVJ (up w' g h2) al_nil))
 obtain ⟨aj, cj, am, cm, rfl, hj, hm'⟩ := rob_lf hF h1
 obtain ⟨ab, cb, rfl, hS⟩ := box_lf hF h2
 rw [h0] at hC
 have hB' : isB bx n n = true := by unfold isB; rw [hv, decide_eq_true rfl]; rfl
 rw [hB'] at hB
 rw [hl, valRows_map (g := pc) (fun _ => rfl)]
 exact rLinks aj am ab cj m cm cb n (jl js n) (bl bx n) (by omega) (jl_len js n) (bl_len bx n) (fun i j h => by obtain ⟨hi, rfl⟩ := jl_at h; exact hp i hi) w hj hS hC hB
theorem snd_ka (js : Nat → J) (ms : Nat → Ms) (bx : Nat → Iv) (n m : Nat) (h0 : rErr js ms n m = 0) (hv : allV bx n = true) : SndA1 Tryz.prog 35 [.a [.lf n (fJ js), .lf m (fM ms)], .lf n (fB bx)] (.v (.lf n (fP (LP js bx n)))) := by
 have hn := rerr_n h0
 refine uW (N := 60) tabOk mixed (OrL.ok (l := [(64, zQK [.a [.lf n (fJ js), .lf m (fM ms)], .lf n (fB bx)] (.v (.b (isB bx n n)))), (43, zQK [.a [.lf n (fJ js), .lf m (fM ms)]] (.v (.n .i64 (rErr js ms n m)))), (65, zQK [.a [.lf n (fJ js), .lf m (fM ms)], .lf n (fB bx)] (.v (.lf n (fP (LP js bx n)))))]) ⟨qHG (snd_isP js ms bx n m n (by omega)), qHG (snd_chk js ms n m), qHG (snd_kl js ms bx n m (by omega) (rerr_par h0)), trivial⟩) ?_
 refine (by kernel_rfl : _ = bif (g1 [.a [.lf n (fJ js), .lf m (fM ms)], .lf n (fB bx)]) then (bif (isB bx n n) then (bif (g1 [.a [.lf n (fJ js), .lf m (fM ms)]]) then (bif (!decide ((rErr js ms n m) = 0)) then some (.v (.l []), [])
 else bif (g1 [.a [.lf n (fJ js), .lf m (fM ms)], .lf n (fB bx)]) then some (.v (.lf n (fP (LP js bx n))), [])
 else none)
 else none)
 else some (.v (.l []), []))
 else none).trans ?_
 have hB' : isB bx n n = true := by unfold isB; rw [hv, decide_eq_true rfl]; rfl
 simp only [zJZ, hB', h0]
 rfl
end Go.Proofs.YtmbnpjpggccefaaGreat.Nf
namespace Go.Proofs.YtmbnpjpggccefaaGreat.Nd
open Go.Rx Rt Go.Sx Go.RowKit
open Ov Pc Na Nb Nc
theorem bcs {α : Type} {c : Bool} {x y z : α} (h1 : c = true → x = z) (h2 : c = false → y = z) : (bif c then x else y) = z := by
 cases c
 ·exact h2 rfl
 ·exact h1 rfl
def fC (cs : Nat → Cn) : Nat → List PV := fun v => cp (cs v)
def COK (n : Nat) (q : Cn) : Prop := (q.kind = 0 ∨ q.kind = 1) ∧ (0 ≤ q.link ∧ q.link < n) ∧ (-4194304 ≤ q.p.x ∧ q.p.x ≤ 4194304) ∧ (-4194304 ≤ q.p.y ∧ q.p.y ≤ 4194304) ∧ (-4194304 ≤ q.p.z ∧ q.p.z ≤ 4194304) ∧
 (-16384 ≤ q.n.x ∧ q.n.x ≤ 16384) ∧ (-16384 ≤ q.n.y ∧ q.n.y ≤ 16384) ∧ (-16384 ≤ q.n.z ∧ q.n.z ≤ 16384) ∧ ¬ (q.n.x = 0 ∧ q.n.y = 0 ∧ q.n.z = 0) ∧ q.lo ≤ q.hi ∧ -70368744177664 ≤ q.lo ∧ q.hi ≤ 70368744177664
instance (n : Nat) (q : Cn) : Decidable (COK n q) := by unfold COK; exact inferInstance
def conB (n : Nat) (q : Cn) : Bool := decide (COK n q)
def cAll (cs : Nat → Cn) (n : Nat) : Nat → Nat → Bool
 | 0, _ => true
 | k + 1, p => conB n (cs p) && cAll cs n k (p + 1)
def cErr (js : Nat → J) (ms : Nat → Ms) (n m : Nat) (cs : Nat → Cn) (c : Nat) : Bool := decide (rErr js ms n m = 0) && (!decide (8 < (c : Int)) && cAll cs n c 0)
noncomputable def qHQ (js : Nat → J) (ms : Nat → Ms) (n m : Nat) : List PV → Option (Bool × Ret) := fun ps => match ps with
 | [r] => some (gEq r (.a [.lf n (fJ js), .lf m (fM ms)]), .v (.n .i64 (rErr js ms n m)))
 | _ => none
theorem ok_kMc (js : Nat → J) (ms : Nat → Ms) (n m : Nat) : OneOk Tryz.prog 43 (qHQ js ms n m) := by
 intro ps r hh
 unfold qHQ at hh
 split at hh
 ·simp only [Option.some.injEq, Prod.mk.injEq] at hh
  obtain ⟨hg, rfl⟩ := hh
  obtain rfl := zZV hg
  exact snd_chk js ms n m
 ·cases hh
def hMc (js : Nat → J) (ms : Nat → Ms) (n m : Nat) (cs : Nat → Cn) (c : Nat) (i : Int) : St := ⟨[(2, .p 2 0), (17, .v (.lf c (fC cs))), (18, .v (.n .i64 (c : Int))), (19, .v (.n .i64 i))], [(2, .blk [.v (.lf n (fJ js)), .v (.lf m (fM ms))])]⟩
def cTMc {α : Type} (n : Nat) (q : Cn) (a b : α) : α := (bif (!decide (q.kind = 0)) then (bif (!decide (q.kind = 1)) then b else (bif (decide (q.link < 0)) then b else (bif (decide ((n : Int) ≤ q.link)) then b else (bif (decide (q.p.x < (-4194304))) then b else (bif (decide (4194304 < q.p.x)) then b else (bif (decide (q.p.y < (-4194304))) then b else (bif (decide (4194304 < q.p.y)) then b else (bif (decide (q.p.z < (-4194304))) then b else (bif (decide (4194304 < q.p.z)) then b else (bif (decide (q.n.x < (-16384))) then b else (bif (decide (16384 < q.n.x)) then b else (bif (decide (q.n.y < (-16384))) then b else (bif (decide (16384 < q.n.y)) then b else (bif (decide (q.n.z < (-16384))) then b else (bif (decide (16384 < q.n.z)) then b else (bif (!((decide (q.n.x = 0)) && ((decide (q.n.y = 0)) && ((decide (q.n.z = 0)) && true)))) then (bif (decide (q.hi < q.lo)) then b else (bif (decide (q.lo < (-70368744177664))) then b else (bif (decide (70368744177664 < q.hi)) then b else a))) else b)))))))))))))))) else (bif (decide (q.link < 0)) then b else (bif (decide ((n : Int) ≤ q.link)) then b else (bif (decide (q.p.x < (-4194304))) then b else (bif (decide (4194304 < q.p.x)) then b else (bif (decide (q.p.y < (-4194304))) then b else (bif (decide (4194304 < q.p.y)) then b else (bif (decide (q.p.z < (-4194304))) then b else (bif (decide (4194304 < q.p.z)) then b else (bif (decide (q.n.x < (-16384))) then b else (bif (decide (16384 < q.n.x)) then b else (bif (decide (q.n.y < (-16384))) then b else (bif (decide (16384 < q.n.y)) then b else (bif (decide (q.n.z < (-16384))) then b else (bif (decide (16384 < q.n.z)) then b else (bif (!((decide (q.n.x = 0)) && ((decide (q.n.y = 0)) && ((decide (q.n.z = 0)) && true)))) then (bif (decide (q.hi < q.lo)) then b else (bif (decide (q.lo < (-70368744177664))) then b else (bif (decide (70368744177664 < q.hi)) then b else a))) else b))))))))))))))))
theorem cTMc_z {α : Type} (n : Nat) (q : Cn) (a b : α) : cTMc n q a b = (bif (decide (¬ q.kind = 0)) then (bif (decide (¬ q.kind = 1)) then b else (bif (decide (q.link < 0)) then b else (bif (decide ((n : Int) ≤ q.link)) then b else (bif (decide (q.p.x < (-4194304))) then b else (bif (decide (4194304 < q.p.x)) then b else (bif (decide (q.p.y < (-4194304))) then b else (bif (decide (4194304 < q.p.y)) then b else (bif (decide (q.p.z < (-4194304))) then b else (bif (decide (4194304 < q.p.z)) then b else (bif (decide (q.n.x < (-16384))) then b else (bif (decide (16384 < q.n.x)) then b else (bif (decide (q.n.y < (-16384))) then b else (bif (decide (16384 < q.n.y)) then b else (bif (decide (q.n.z < (-16384))) then b else (bif (decide (16384 < q.n.z)) then b else (bif (decide (¬ (q.n.x = 0 ∧ q.n.y = 0 ∧ q.n.z = 0))) then (bif (decide (q.hi < q.lo)) then b else (bif (decide (q.lo < (-70368744177664))) then b else (bif (decide (70368744177664 < q.hi)) then b else a))) else b)))))))))))))))) else (bif (decide (q.link < 0)) then b else (bif (decide ((n : Int) ≤ q.link)) then b else (bif (decide (q.p.x < (-4194304))) then b else (bif (decide (4194304 < q.p.x)) then b else (bif (decide (q.p.y < (-4194304))) then b else (bif (decide (4194304 < q.p.y)) then b else (bif (decide (q.p.z < (-4194304))) then b else (bif (decide (4194304 < q.p.z)) then b else (bif (decide (q.n.x < (-16384))) then b else (bif (decide (16384 < q.n.x)) then b else (bif (decide (q.n.y < (-16384))) then b else (bif (decide (16384 < q.n.y)) then b else (bif (decide (q.n.z < (-16384))) then b else (bif (decide (16384 < q.n.z)) then b else (bif (decide (¬ (q.n.x = 0 ∧ q.n.y = 0 ∧ q.n.z = 0))) then (bif (decide (q.hi < q.lo)) then b else (bif (decide (q.lo < (-70368744177664))) then b else (bif (decide (70368744177664 < q.hi)) then b else a))) else b)))))))))))))))) := by
 have hz : (!((decide (q.n.x = 0)) && ((decide (q.n.y = 0)) && ((decide (q.n.z = 0)) && true)))) = decide (¬ (q.n.x = 0 ∧ q.n.y = 0 ∧ q.n.z = 0)) := by
  by_cases hx : q.n.x = 0 <;> by_cases hy : q.n.y = 0 <;> by_cases hw : q.n.z = 0 <;> simp [hx, hy, hw]
 have hk0 : (!decide (q.kind = 0)) = decide (¬ q.kind = 0) := by simp
 have hk1 : (!decide (q.kind = 1)) = decide (¬ q.kind = 1) := by simp
 unfold cTMc
 rw [hz, hk0, hk1]
theorem cTMc_eq {α : Type} (n : Nat) (q : Cn) (a b : α) : cTMc n q a b = bif conB n q then a else b := by
 rw [cTMc_z]
 unfold conB
 by_cases h : COK n q
 ·rw [decide_eq_true h, cond_true]
  obtain ⟨h0, ⟨h1, h2⟩, ⟨h3, h4⟩, ⟨h5, h6⟩, ⟨h7, h8⟩, ⟨h9, h10⟩, ⟨h11, h12⟩, ⟨h13, h14⟩, h15, h16, h17, h18⟩ := h
  rcases h0 with h0 | h0
  ·simp only [decide_eq_false (show ¬ ¬ q.kind = 0 by omega), decide_eq_true h15, decide_eq_false (show ¬ q.link < 0 by omega), decide_eq_false (show ¬ (n : Int) ≤ q.link by omega), decide_eq_false (show ¬ q.p.x < (-4194304) by omega), decide_eq_false (show ¬ 4194304 < q.p.x by omega), decide_eq_false (show ¬ q.p.y < (-4194304) by omega), decide_eq_false (show ¬ 4194304 < q.p.y by omega), decide_eq_false (show ¬ q.p.z < (-4194304) by omega), decide_eq_false (show ¬ 4194304 < q.p.z by omega), decide_eq_false (show ¬ q.n.x < (-16384) by omega), decide_eq_false (show ¬ 16384 < q.n.x by omega), decide_eq_false (show ¬ q.n.y < (-16384) by omega), decide_eq_false (show ¬ 16384 < q.n.y by omega), decide_eq_false (show ¬ q.n.z < (-16384) by omega), decide_eq_false (show ¬ 16384 < q.n.z by omega), decide_eq_false (show ¬ q.hi < q.lo by omega), decide_eq_false (show ¬ q.lo < (-70368744177664) by omega), decide_eq_false (show ¬ 70368744177664 < q.hi by omega), cond_true, cond_false]
  ·simp only [decide_eq_true (show ¬ q.kind = 0 by omega), decide_eq_false (show ¬ ¬ q.kind = 1 by omega), decide_eq_true h15, decide_eq_false (show ¬ q.link < 0 by omega), decide_eq_false (show ¬ (n : Int) ≤ q.link by omega), decide_eq_false (show ¬ q.p.x < (-4194304) by omega), decide_eq_false (show ¬ 4194304 < q.p.x by omega), decide_eq_false (show ¬ q.p.y < (-4194304) by omega), decide_eq_false (show ¬ 4194304 < q.p.y by omega), decide_eq_false (show ¬ q.p.z < (-4194304) by omega), decide_eq_false (show ¬ 4194304 < q.p.z by omega), decide_eq_false (show ¬ q.n.x < (-16384) by omega), decide_eq_false (show ¬ 16384 < q.n.x by omega), decide_eq_false (show ¬ q.n.y < (-16384) by omega), decide_eq_false (show ¬ 16384 < q.n.y by omega), decide_eq_false (show ¬ q.n.z < (-16384) by omega), decide_eq_false (show ¬ 16384 < q.n.z by omega), decide_eq_false (show ¬ q.hi < q.lo by omega), decide_eq_false (show ¬ q.lo < (-70368744177664) by omega), decide_eq_false (show ¬ 70368744177664 < q.hi by omega), cond_true, cond_false]
 ·rw [decide_eq_false h, cond_false]
  exact bcs (fun h1 => bcs (fun h2 => rfl) (fun h2 => bcs (fun h3 => rfl) (fun h3 => bcs (fun h4 => rfl) (fun h4 => bcs (fun h5 => rfl) (fun h5 => bcs (fun h6 => rfl) (fun h6 => bcs (fun h7 => rfl) (fun h7 => bcs (fun h8 => rfl) (fun h8 => bcs (fun h9 => rfl) (fun h9 => bcs (fun h10 => rfl) (fun h10 => bcs (fun h11 => rfl) (fun h11 => bcs (fun h12 => rfl) (fun h12 => bcs (fun h13 => rfl) (fun h13 => bcs (fun h14 => rfl) (fun h14 => bcs (fun h15 => rfl) (fun h15 => bcs (fun h16 => rfl) (fun h16 => bcs (fun h17 => bcs (fun h18 => rfl) (fun h18 => bcs (fun h19 => rfl) (fun h19 => bcs (fun h20 => rfl) (fun h20 => (by simp only [decide_eq_true_eq, decide_eq_false_iff_not] at *; exact absurd (by unfold COK; refine ⟨?_, ⟨?_, ?_⟩, ⟨?_, ?_⟩, ⟨?_, ?_⟩, ⟨?_, ?_⟩, ⟨?_, ?_⟩, ⟨?_, ?_⟩, ⟨?_, ?_⟩, ?_, ?_, ?_, ?_⟩ <;> omega) h))))) (fun h17 => rfl))))))))))))))))) (fun h1 => bcs (fun h21 => rfl) (fun h21 => bcs (fun h22 => rfl) (fun h22 => bcs (fun h23 => rfl) (fun h23 => bcs (fun h24 => rfl) (fun h24 => bcs (fun h25 => rfl) (fun h25 => bcs (fun h26 => rfl) (fun h26 => bcs (fun h27 => rfl) (fun h27 => bcs (fun h28 => rfl) (fun h28 => bcs (fun h29 => rfl) (fun h29 => bcs (fun h30 => rfl) (fun h30 => bcs (fun h31 => rfl) (fun h31 => bcs (fun h32 => rfl) (fun h32 => bcs (fun h33 => rfl) (fun h33 => bcs (fun h34 => rfl) (fun h34 => bcs (fun h35 => bcs (fun h36 => rfl) (fun h36 => bcs (fun h37 => rfl) (fun h37 => bcs (fun h38 => rfl) (fun h38 => (by simp only [decide_eq_true_eq, decide_eq_false_iff_not] at *; exact absurd (by unfold COK; refine ⟨?_, ⟨?_, ?_⟩, ⟨?_, ?_⟩, ⟨?_, ?_⟩, ⟨?_, ?_⟩, ⟨?_, ?_⟩, ⟨?_, ?_⟩, ⟨?_, ?_⟩, ?_, ?_, ?_, ?_⟩ <;> omega) h))))) (fun h35 => rfl))))))))))))))))
set_option maxRecDepth 100000 in
theorem rdMc (G : St → Option (Ret × Mem)) (K : Cont) (js : Nat → J) (ms : Nat → Ms) (n m : Nat) (cs : Nat → Cn) (c : Nat) (i : Int) : runCK 60 (cxF T (OrL.k [(43, qHQ js ms n m)]) 60 16 (ntmF T 16)) (ckF T (OrL.k [(43, qHQ js ms n m)]) 60) (jY T 16 [0, 1, 0, 1, 1]) (fun e τ => match e with
 | .normal => G (prune ((cxF T (OrL.k [(43, qHQ js ms n m)]) 60 16 (ntmF T 16)).T.hint (cxF T (OrL.k [(43, qHQ js ms n m)]) 60 16 (ntmF T 16)).me (kK (jY T 16 [0, 1, 0, 1, 1]))) τ)
 | e => K e (qVU ((cxF T (OrL.k [(43, qHQ js ms n m)]) 60 16 (ntmF T 16)).T.hint (cxF T (OrL.k [(43, qHQ js ms n m)]) 60 16 (ntmF T 16)).me (kK (jY T 16 [0, 1, 0, 1, 1]))) τ)) (hMc js ms n m cs c i) =
 bif decide (i < (c : Int)) then (bif inB i c then cTMc n (cs i.toNat) (G (hMc js ms n m cs c (IntKind.i64.wrap (i + 1)))) (K .ret ⟨[(4, .v (.b false))], []⟩) else none) else (K (.exit 0) ⟨[], []⟩) := by kernel_rfl
theorem lpMc (K : Cont) (js : Nat → J) (ms : Nat → Ms) (n m : Nat) (cs : Nat → Cn) (c : Nat) (hc : c ≤ 1000) : ∀ (k p q : Nat), p + k = c → k < q → LF 60 (cxF T (OrL.k [(43, qHQ js ms n m)]) 60 16 (ntmF T 16)) (ckF T (OrL.k [(43, qHQ js ms n m)]) 60) (jY T 16 [0, 1, 0, 1, 1]) ((cxF T (OrL.k [(43, qHQ js ms n m)]) 60 16 (ntmF T 16)).T.hint (cxF T (OrL.k [(43, qHQ js ms n m)]) 60 16 (ntmF T 16)).me (kK (jY T 16 [0, 1, 0, 1, 1]))) K q (hMc js ms n m cs c p) = bif cAll cs n k p then (K (.exit 0) ⟨[], []⟩) else (K .ret ⟨[(4, .v (.b false))], []⟩)
 | 0, p, q + 1, hp, hq => by
  refine (rdMc (fun σ => LF 60 (cxF T (OrL.k [(43, qHQ js ms n m)]) 60 16 (ntmF T 16)) (ckF T (OrL.k [(43, qHQ js ms n m)]) 60) (jY T 16 [0, 1, 0, 1, 1]) ((cxF T (OrL.k [(43, qHQ js ms n m)]) 60 16 (ntmF T 16)).T.hint (cxF T (OrL.k [(43, qHQ js ms n m)]) 60 16 (ntmF T 16)).me (kK (jY T 16 [0, 1, 0, 1, 1]))) K q σ) K js ms n m cs c p).trans ?_
  rw [decide_eq_false (show ¬ (p : Int) < (c : Int) by omega)]
  rfl
 | k + 1, p, q + 1, hp, hq => by
  refine (rdMc (fun σ => LF 60 (cxF T (OrL.k [(43, qHQ js ms n m)]) 60 16 (ntmF T 16)) (ckF T (OrL.k [(43, qHQ js ms n m)]) 60) (jY T 16 [0, 1, 0, 1, 1]) ((cxF T (OrL.k [(43, qHQ js ms n m)]) 60 16 (ntmF T 16)).T.hint (cxF T (OrL.k [(43, qHQ js ms n m)]) 60 16 (ntmF T 16)).me (kK (jY T 16 [0, 1, 0, 1, 1]))) K q σ) K js ms n m cs c p).trans ?_
  rw [decide_eq_true (show (p : Int) < (c : Int) by omega), qUW (show p < c by omega), zQY (by omega), lpMc K js ms n m cs c hc k (p + 1) q (by omega) (by omega), toN, cTMc_eq]
  by_cases hq : conB n (cs p) = true
  ·simp only [cAll, hq, cond_true, Bool.true_and]
  ·rw [Bool.not_eq_true] at hq
   simp only [cAll, hq, cond_true, cond_false, Bool.false_and]
set_option maxRecDepth 100000 in
theorem pxMc (js : Nat → J) (ms : Nat → Ms) (n m : Nat) (cs : Nat → Cn) (c : Nat) : runKL T (OrL.k [(43, qHQ js ms n m)]) (qJJ [([0, 1, 0, 1, 1], sumAt (hMc js ms n m cs c 0) (fun K => bif decide (8 < (c : Int)) then none else (bif cAll cs n c 0 then (K (.exit 0) ⟨[], []⟩) else (K .ret ⟨[(4, .v (.b false))], []⟩))))]) 60 16 [(.a [.lf n (fJ js), .lf m (fM ms)]), .lf c (fC cs)] =
 (bif (gEq (.a [.lf n (fJ js), .lf m (fM ms)]) (.a [.lf n (fJ js), .lf m (fM ms)])) then (bif (!decide ((rErr js ms n m) = 0)) then some (.v (.b false), [])
 else (bif (decide (8 < (c : Int))) then some (.v (.b false), [])
 else (bif gSt (hMc js ms n m cs c 0) (hMc js ms n m cs c 0) then (bif decide (8 < (c : Int)) then none else (bif cAll cs n c 0 then some (.v (.b true), []) else some (.v (.b false), []))) else none)))
 else none) := by kernel_rfl
theorem snd_Mc (js : Nat → J) (ms : Nat → Ms) (n m : Nat) (cs : Nat → Cn) (c : Nat) : SndA1 Tryz.prog 16 [(.a [.lf n (fJ js), .lf m (fM ms)]), .lf c (fC cs)] (.v (.b (cErr js ms n m cs c))) := by
 refine qZY (N := 60) (LO := qJJ [([0, 1, 0, 1, 1], sumAt (hMc js ms n m cs c 0) (fun K => bif decide (8 < (c : Int)) then none else (bif cAll cs n c 0 then (K (.exit 0) ⟨[], []⟩) else (K .ret ⟨[(4, .v (.b false))], []⟩))))]) tabOk mixed (OrL.ok (l := [(43, qHQ js ms n m)]) ⟨ok_kMc js ms n m, trivial⟩) (fun p S hp => ?_) ?_
 ·refine qJY (L := jY T 16) (l := [([0, 1, 0, 1, 1], sumAt (hMc js ms n m cs c 0) (fun K => bif decide (8 < (c : Int)) then none else (bif cAll cs n c 0 then (K (.exit 0) ⟨[], []⟩) else (K .ret ⟨[(4, .v (.b false))], []⟩))))]) (show AllP _ [([0, 1, 0, 1, 1], sumAt (hMc js ms n m cs c 0) (fun K => bif decide (8 < (c : Int)) then none else (bif cAll cs n c 0 then (K (.exit 0) ⟨[], []⟩) else (K .ret ⟨[(4, .v (.b false))], []⟩))))] from ⟨qKG fun K r hr => ?_, trivial⟩) p S hp
  cases hq : decide (8 < (c : Int)) with
  | true => rw [hq] at hr; cases hr
  | false =>
   rw [hq] at hr
   have h8 := of_decide_eq_false hq
   exact (lpMc K js ms n m cs c (by omega) c 0 60 (by omega) (by omega)).trans hr
 ·refine (pxMc js ms n m cs c).trans ?_
  unfold cErr
  rw [qUJ, gEq_self]
  cases decide (rErr js ms n m = 0) <;> cases decide (8 < (c : Int)) <;> cases cAll cs n c 0 <;> rfl
noncomputable def qGH (js : Nat → J) (ms : Nat → Ms) (n m : Nat) : List PV → Option (Bool × Ret) := fun ps => match ps with
 | [r] => some (gEq r (.a [.lf n (fJ js), .lf m (fM ms)]), .v (.n .i64 (rErr js ms n m)))
 | _ => none
theorem ok_kRc (js : Nat → J) (ms : Nat → Ms) (n m : Nat) : OneOk Tryz.prog 45 (qGH js ms n m) := by
 intro ps r hh
 unfold qGH at hh
 split at hh
 ·simp only [Option.some.injEq, Prod.mk.injEq] at hh
  obtain ⟨hg, rfl⟩ := hh
  obtain rfl := zZV hg
  exact snd_crf js ms n m
 ·cases hh
def hRc (js : Nat → J) (ms : Nat → Ms) (n m : Nat) (cs : Nat → Cn) (c : Nat) (i : Int) : St := ⟨[(1, .v (.lf c (fC cs))), (2, .p 2 0), (5, .v (.n .i64 i))], [(2, .blk [.v (.lf n (fJ js)), .v (.lf m (fM ms))])]⟩
def cTRc {α : Type} (n : Nat) (q : Cn) (a b : α) : α := (bif (!decide (q.kind = 0)) then (bif (!decide (q.kind = 1)) then b else (bif (decide (q.link < 0)) then b else (bif (decide ((n : Int) ≤ q.link)) then b else (bif (decide (q.p.x < (-4194304))) then b else (bif (decide (4194304 < q.p.x)) then b else (bif (decide (q.p.y < (-4194304))) then b else (bif (decide (4194304 < q.p.y)) then b else (bif (decide (q.p.z < (-4194304))) then b else (bif (decide (4194304 < q.p.z)) then b else (bif (!((decide (q.n.x = 0)) && ((decide (q.n.y = 0)) && ((decide (q.n.z = 0)) && true)))) then (bif (decide (q.n.x < (-16384))) then b else (bif (decide (16384 < q.n.x)) then b else (bif (decide (q.n.y < (-16384))) then b else (bif (decide (16384 < q.n.y)) then b else (bif (decide (q.n.z < (-16384))) then b else (bif (decide (16384 < q.n.z)) then b else (bif (decide (q.hi < q.lo)) then b else (bif (decide (q.lo < (-70368744177664))) then b else (bif (decide (70368744177664 < q.hi)) then b else a))))))))) else b)))))))))) else (bif (decide (q.link < 0)) then b else (bif (decide ((n : Int) ≤ q.link)) then b else (bif (decide (q.p.x < (-4194304))) then b else (bif (decide (4194304 < q.p.x)) then b else (bif (decide (q.p.y < (-4194304))) then b else (bif (decide (4194304 < q.p.y)) then b else (bif (decide (q.p.z < (-4194304))) then b else (bif (decide (4194304 < q.p.z)) then b else (bif (!((decide (q.n.x = 0)) && ((decide (q.n.y = 0)) && ((decide (q.n.z = 0)) && true)))) then (bif (decide (q.n.x < (-16384))) then b else (bif (decide (16384 < q.n.x)) then b else (bif (decide (q.n.y < (-16384))) then b else (bif (decide (16384 < q.n.y)) then b else (bif (decide (q.n.z < (-16384))) then b else (bif (decide (16384 < q.n.z)) then b else (bif (decide (q.hi < q.lo)) then b else (bif (decide (q.lo < (-70368744177664))) then b else (bif (decide (70368744177664 < q.hi)) then b else a))))))))) else b))))))))))
theorem cTRc_z {α : Type} (n : Nat) (q : Cn) (a b : α) : cTRc n q a b = (bif (decide (¬ q.kind = 0)) then (bif (decide (¬ q.kind = 1)) then b else (bif (decide (q.link < 0)) then b else (bif (decide ((n : Int) ≤ q.link)) then b else (bif (decide (q.p.x < (-4194304))) then b else (bif (decide (4194304 < q.p.x)) then b else (bif (decide (q.p.y < (-4194304))) then b else (bif (decide (4194304 < q.p.y)) then b else (bif (decide (q.p.z < (-4194304))) then b else (bif (decide (4194304 < q.p.z)) then b else (bif (decide (¬ (q.n.x = 0 ∧ q.n.y = 0 ∧ q.n.z = 0))) then (bif (decide (q.n.x < (-16384))) then b else (bif (decide (16384 < q.n.x)) then b else (bif (decide (q.n.y < (-16384))) then b else (bif (decide (16384 < q.n.y)) then b else (bif (decide (q.n.z < (-16384))) then b else (bif (decide (16384 < q.n.z)) then b else (bif (decide (q.hi < q.lo)) then b else (bif (decide (q.lo < (-70368744177664))) then b else (bif (decide (70368744177664 < q.hi)) then b else a))))))))) else b)))))))))) else (bif (decide (q.link < 0)) then b else (bif (decide ((n : Int) ≤ q.link)) then b else (bif (decide (q.p.x < (-4194304))) then b else (bif (decide (4194304 < q.p.x)) then b else (bif (decide (q.p.y < (-4194304))) then b else (bif (decide (4194304 < q.p.y)) then b else (bif (decide (q.p.z < (-4194304))) then b else (bif (decide (4194304 < q.p.z)) then b else (bif (decide (¬ (q.n.x = 0 ∧ q.n.y = 0 ∧ q.n.z = 0))) then (bif (decide (q.n.x < (-16384))) then b else (bif (decide (16384 < q.n.x)) then b else (bif (decide (q.n.y < (-16384))) then b else (bif (decide (16384 < q.n.y)) then b else (bif (decide (q.n.z < (-16384))) then b else (bif (decide (16384 < q.n.z)) then b else (bif (decide (q.hi < q.lo)) then b else (bif (decide (q.lo < (-70368744177664))) then b else (bif (decide (70368744177664 < q.hi)) then b else a))))))))) else b)))))))))) := by
 have hz : (!((decide (q.n.x = 0)) && ((decide (q.n.y = 0)) && ((decide (q.n.z = 0)) && true)))) = decide (¬ (q.n.x = 0 ∧ q.n.y = 0 ∧ q.n.z = 0)) := by
  by_cases hx : q.n.x = 0 <;> by_cases hy : q.n.y = 0 <;> by_cases hw : q.n.z = 0 <;> simp [hx, hy, hw]
 have hk0 : (!decide (q.kind = 0)) = decide (¬ q.kind = 0) := by simp
 have hk1 : (!decide (q.kind = 1)) = decide (¬ q.kind = 1) := by simp
 unfold cTRc
 rw [hz, hk0, hk1]
theorem cTRc_eq {α : Type} (n : Nat) (q : Cn) (a b : α) : cTRc n q a b = bif conB n q then a else b := by
 rw [cTRc_z]
 unfold conB
 by_cases h : COK n q
 ·rw [decide_eq_true h, cond_true]
  obtain ⟨h0, ⟨h1, h2⟩, ⟨h3, h4⟩, ⟨h5, h6⟩, ⟨h7, h8⟩, ⟨h9, h10⟩, ⟨h11, h12⟩, ⟨h13, h14⟩, h15, h16, h17, h18⟩ := h
  rcases h0 with h0 | h0
  ·simp only [decide_eq_false (show ¬ ¬ q.kind = 0 by omega), decide_eq_true h15, decide_eq_false (show ¬ q.link < 0 by omega), decide_eq_false (show ¬ (n : Int) ≤ q.link by omega), decide_eq_false (show ¬ q.p.x < (-4194304) by omega), decide_eq_false (show ¬ 4194304 < q.p.x by omega), decide_eq_false (show ¬ q.p.y < (-4194304) by omega), decide_eq_false (show ¬ 4194304 < q.p.y by omega), decide_eq_false (show ¬ q.p.z < (-4194304) by omega), decide_eq_false (show ¬ 4194304 < q.p.z by omega), decide_eq_false (show ¬ q.n.x < (-16384) by omega), decide_eq_false (show ¬ 16384 < q.n.x by omega), decide_eq_false (show ¬ q.n.y < (-16384) by omega), decide_eq_false (show ¬ 16384 < q.n.y by omega), decide_eq_false (show ¬ q.n.z < (-16384) by omega), decide_eq_false (show ¬ 16384 < q.n.z by omega), decide_eq_false (show ¬ q.hi < q.lo by omega), decide_eq_false (show ¬ q.lo < (-70368744177664) by omega), decide_eq_false (show ¬ 70368744177664 < q.hi by omega), cond_true, cond_false]
  ·simp only [decide_eq_true (show ¬ q.kind = 0 by omega), decide_eq_false (show ¬ ¬ q.kind = 1 by omega), decide_eq_true h15, decide_eq_false (show ¬ q.link < 0 by omega), decide_eq_false (show ¬ (n : Int) ≤ q.link by omega), decide_eq_false (show ¬ q.p.x < (-4194304) by omega), decide_eq_false (show ¬ 4194304 < q.p.x by omega), decide_eq_false (show ¬ q.p.y < (-4194304) by omega), decide_eq_false (show ¬ 4194304 < q.p.y by omega), decide_eq_false (show ¬ q.p.z < (-4194304) by omega), decide_eq_false (show ¬ 4194304 < q.p.z by omega), decide_eq_false (show ¬ q.n.x < (-16384) by omega), decide_eq_false (show ¬ 16384 < q.n.x by omega), decide_eq_false (show ¬ q.n.y < (-16384) by omega), decide_eq_false (show ¬ 16384 < q.n.y by omega), decide_eq_false (show ¬ q.n.z < (-16384) by omega), decide_eq_false (show ¬ 16384 < q.n.z by omega), decide_eq_false (show ¬ q.hi < q.lo by omega), decide_eq_false (show ¬ q.lo < (-70368744177664) by omega), decide_eq_false (show ¬ 70368744177664 < q.hi by omega), cond_true, cond_false]
 ·rw [decide_eq_false h, cond_false]
  exact bcs (fun h1 => bcs (fun h2 => rfl) (fun h2 => bcs (fun h3 => rfl) (fun h3 => bcs (fun h4 => rfl) (fun h4 => bcs (fun h5 => rfl) (fun h5 => bcs (fun h6 => rfl) (fun h6 => bcs (fun h7 => rfl) (fun h7 => bcs (fun h8 => rfl) (fun h8 => bcs (fun h9 => rfl) (fun h9 => bcs (fun h10 => rfl) (fun h10 => bcs (fun h11 => bcs (fun h12 => rfl) (fun h12 => bcs (fun h13 => rfl) (fun h13 => bcs (fun h14 => rfl) (fun h14 => bcs (fun h15 => rfl) (fun h15 => bcs (fun h16 => rfl) (fun h16 => bcs (fun h17 => rfl) (fun h17 => bcs (fun h18 => rfl) (fun h18 => bcs (fun h19 => rfl) (fun h19 => bcs (fun h20 => rfl) (fun h20 => (by simp only [decide_eq_true_eq, decide_eq_false_iff_not] at *; exact absurd (by unfold COK; refine ⟨?_, ⟨?_, ?_⟩, ⟨?_, ?_⟩, ⟨?_, ?_⟩, ⟨?_, ?_⟩, ⟨?_, ?_⟩, ⟨?_, ?_⟩, ⟨?_, ?_⟩, ?_, ?_, ?_, ?_⟩ <;> omega) h))))))))))) (fun h11 => rfl))))))))))) (fun h1 => bcs (fun h21 => rfl) (fun h21 => bcs (fun h22 => rfl) (fun h22 => bcs (fun h23 => rfl) (fun h23 => bcs (fun h24 => rfl) (fun h24 => bcs (fun h25 => rfl) (fun h25 => bcs (fun h26 => rfl) (fun h26 => bcs (fun h27 => rfl) (fun h27 => bcs (fun h28 => rfl) (fun h28 => bcs (fun h29 => bcs (fun h30 => rfl) (fun h30 => bcs (fun h31 => rfl) (fun h31 => bcs (fun h32 => rfl) (fun h32 => bcs (fun h33 => rfl) (fun h33 => bcs (fun h34 => rfl) (fun h34 => bcs (fun h35 => rfl) (fun h35 => bcs (fun h36 => rfl) (fun h36 => bcs (fun h37 => rfl) (fun h37 => bcs (fun h38 => rfl) (fun h38 => (by simp only [decide_eq_true_eq, decide_eq_false_iff_not] at *; exact absurd (by unfold COK; refine ⟨?_, ⟨?_, ?_⟩, ⟨?_, ?_⟩, ⟨?_, ?_⟩, ⟨?_, ?_⟩, ⟨?_, ?_⟩, ⟨?_, ?_⟩, ⟨?_, ?_⟩, ?_, ?_, ?_, ?_⟩ <;> omega) h))))))))))) (fun h29 => rfl))))))))))
set_option maxRecDepth 100000 in
theorem rdRc (G : St → Option (Ret × Mem)) (K : Cont) (js : Nat → J) (ms : Nat → Ms) (n m : Nat) (cs : Nat → Cn) (c : Nat) (i : Int) : runCK 60 (cxF T (OrL.k [(45, qGH js ms n m)]) 60 17 (ntmF T 17)) (ckF T (OrL.k [(45, qGH js ms n m)]) 60) (jY T 17 [0, 1, 0, 1, 1]) (fun e τ => match e with
 | .normal => G (prune ((cxF T (OrL.k [(45, qGH js ms n m)]) 60 17 (ntmF T 17)).T.hint (cxF T (OrL.k [(45, qGH js ms n m)]) 60 17 (ntmF T 17)).me (kK (jY T 17 [0, 1, 0, 1, 1]))) τ)
 | e => K e (qVU ((cxF T (OrL.k [(45, qGH js ms n m)]) 60 17 (ntmF T 17)).T.hint (cxF T (OrL.k [(45, qGH js ms n m)]) 60 17 (ntmF T 17)).me (kK (jY T 17 [0, 1, 0, 1, 1]))) τ)) (hRc js ms n m cs c i) =
 bif decide (i < (c : Int)) then (bif inB i c then cTRc n (cs i.toNat) (G (hRc js ms n m cs c (IntKind.i64.wrap (i + 1)))) (K .ret ⟨[(4, .v (.b false))], []⟩) else none) else (K (.exit 0) ⟨[], []⟩) := by kernel_rfl
theorem lpRc (K : Cont) (js : Nat → J) (ms : Nat → Ms) (n m : Nat) (cs : Nat → Cn) (c : Nat) (hc : c ≤ 1000) : ∀ (k p q : Nat), p + k = c → k < q → LF 60 (cxF T (OrL.k [(45, qGH js ms n m)]) 60 17 (ntmF T 17)) (ckF T (OrL.k [(45, qGH js ms n m)]) 60) (jY T 17 [0, 1, 0, 1, 1]) ((cxF T (OrL.k [(45, qGH js ms n m)]) 60 17 (ntmF T 17)).T.hint (cxF T (OrL.k [(45, qGH js ms n m)]) 60 17 (ntmF T 17)).me (kK (jY T 17 [0, 1, 0, 1, 1]))) K q (hRc js ms n m cs c p) = bif cAll cs n k p then (K (.exit 0) ⟨[], []⟩) else (K .ret ⟨[(4, .v (.b false))], []⟩)
 | 0, p, q + 1, hp, hq => by
  refine (rdRc (fun σ => LF 60 (cxF T (OrL.k [(45, qGH js ms n m)]) 60 17 (ntmF T 17)) (ckF T (OrL.k [(45, qGH js ms n m)]) 60) (jY T 17 [0, 1, 0, 1, 1]) ((cxF T (OrL.k [(45, qGH js ms n m)]) 60 17 (ntmF T 17)).T.hint (cxF T (OrL.k [(45, qGH js ms n m)]) 60 17 (ntmF T 17)).me (kK (jY T 17 [0, 1, 0, 1, 1]))) K q σ) K js ms n m cs c p).trans ?_
  rw [decide_eq_false (show ¬ (p : Int) < (c : Int) by omega)]
  rfl
 | k + 1, p, q + 1, hp, hq => by
  refine (rdRc (fun σ => LF 60 (cxF T (OrL.k [(45, qGH js ms n m)]) 60 17 (ntmF T 17)) (ckF T (OrL.k [(45, qGH js ms n m)]) 60) (jY T 17 [0, 1, 0, 1, 1]) ((cxF T (OrL.k [(45, qGH js ms n m)]) 60 17 (ntmF T 17)).T.hint (cxF T (OrL.k [(45, qGH js ms n m)]) 60 17 (ntmF T 17)).me (kK (jY T 17 [0, 1, 0, 1, 1]))) K q σ) K js ms n m cs c p).trans ?_
  rw [decide_eq_true (show (p : Int) < (c : Int) by omega), qUW (show p < c by omega), zQY (by omega), lpRc K js ms n m cs c hc k (p + 1) q (by omega) (by omega), toN, cTRc_eq]
  by_cases hq : conB n (cs p) = true
  ·simp only [cAll, hq, cond_true, Bool.true_and]
  ·rw [Bool.not_eq_true] at hq
   simp only [cAll, hq, cond_true, cond_false, Bool.false_and]
set_option maxRecDepth 100000 in
theorem pxRc (js : Nat → J) (ms : Nat → Ms) (n m : Nat) (cs : Nat → Cn) (c : Nat) : runKL T (OrL.k [(45, qGH js ms n m)]) (qJJ [([0, 1, 0, 1, 1], sumAt (hRc js ms n m cs c 0) (fun K => bif decide (8 < (c : Int)) then none else (bif cAll cs n c 0 then (K (.exit 0) ⟨[], []⟩) else (K .ret ⟨[(4, .v (.b false))], []⟩))))]) 60 17 [(.a [.lf n (fJ js), .lf m (fM ms)]), .lf c (fC cs)] =
 (bif (gEq (.a [.lf n (fJ js), .lf m (fM ms)]) (.a [.lf n (fJ js), .lf m (fM ms)])) then (bif (!decide ((rErr js ms n m) = 0)) then some (.v (.b false), [])
 else (bif (decide (8 < (c : Int))) then some (.v (.b false), [])
 else (bif gSt (hRc js ms n m cs c 0) (hRc js ms n m cs c 0) then (bif decide (8 < (c : Int)) then none else (bif cAll cs n c 0 then some (.v (.b true), []) else some (.v (.b false), []))) else none)))
 else none) := by kernel_rfl
theorem snd_Rc (js : Nat → J) (ms : Nat → Ms) (n m : Nat) (cs : Nat → Cn) (c : Nat) : SndA1 Tryz.prog 17 [(.a [.lf n (fJ js), .lf m (fM ms)]), .lf c (fC cs)] (.v (.b (cErr js ms n m cs c))) := by
 refine qZY (N := 60) (LO := qJJ [([0, 1, 0, 1, 1], sumAt (hRc js ms n m cs c 0) (fun K => bif decide (8 < (c : Int)) then none else (bif cAll cs n c 0 then (K (.exit 0) ⟨[], []⟩) else (K .ret ⟨[(4, .v (.b false))], []⟩))))]) tabOk mixed (OrL.ok (l := [(45, qGH js ms n m)]) ⟨ok_kRc js ms n m, trivial⟩) (fun p S hp => ?_) ?_
 ·refine qJY (L := jY T 17) (l := [([0, 1, 0, 1, 1], sumAt (hRc js ms n m cs c 0) (fun K => bif decide (8 < (c : Int)) then none else (bif cAll cs n c 0 then (K (.exit 0) ⟨[], []⟩) else (K .ret ⟨[(4, .v (.b false))], []⟩))))]) (show AllP _ [([0, 1, 0, 1, 1], sumAt (hRc js ms n m cs c 0) (fun K => bif decide (8 < (c : Int)) then none else (bif cAll cs n c 0 then (K (.exit 0) ⟨[], []⟩) else (K .ret ⟨[(4, .v (.b false))], []⟩))))] from ⟨qKG fun K r hr => ?_, trivial⟩) p S hp
  cases hq : decide (8 < (c : Int)) with
  | true => rw [hq] at hr; cases hr
  | false =>
   rw [hq] at hr
   have h8 := of_decide_eq_false hq
   exact (lpRc K js ms n m cs c (by omega) c 0 60 (by omega) (by omega)).trans hr
 ·refine (pxRc js ms n m cs c).trans ?_
  unfold cErr
  rw [qUJ, gEq_self]
  cases decide (rErr js ms n m = 0) <;> cases decide (8 < (c : Int)) <;> cases cAll cs n c 0 <;> rfl
end Go.Proofs.YtmbnpjpggccefaaGreat.Nd
namespace Go.Proofs.YtmbnpjpggccefaaGreat.Ng
open Go.Rx Rt Go.Sx Go.RowKit Od Ov Pc Na Nb Nc Nd Nee Nf
noncomputable def vr (c : Cn) (p : Po) : Int × Int := bif decide (c.kind = 1) then (dot (Z3.mk c.n.x c.n.y c.n.z).x (Z3.mk c.n.x c.n.y c.n.z).y (Z3.mk c.n.x c.n.y c.n.z).z (M3.apply p.r (V3.of (Z3.mk c.p.x c.p.y c.p.z))).x.lo (M3.apply p.r (V3.of (Z3.mk c.p.x c.p.y c.p.z))).x.hi (M3.apply p.r (V3.of (Z3.mk c.p.x c.p.y c.p.z))).y.lo (M3.apply p.r (V3.of (Z3.mk c.p.x c.p.y c.p.z))).y.hi (M3.apply p.r (V3.of (Z3.mk c.p.x c.p.y c.p.z))).z.lo (M3.apply p.r (V3.of (Z3.mk c.p.x c.p.y c.p.z))).z.hi) else (dot (Z3.mk c.n.x c.n.y c.n.z).x (Z3.mk c.n.x c.n.y c.n.z).y (Z3.mk c.n.x c.n.y c.n.z).z (Po.app p (V3.of (Z3.mk c.p.x c.p.y c.p.z))).x.lo (Po.app p (V3.of (Z3.mk c.p.x c.p.y c.p.z))).x.hi (Po.app p (V3.of (Z3.mk c.p.x c.p.y c.p.z))).y.lo (Po.app p (V3.of (Z3.mk c.p.x c.p.y c.p.z))).y.hi (Po.app p (V3.of (Z3.mk c.p.x c.p.y c.p.z))).z.lo (Po.app p (V3.of (Z3.mk c.p.x c.p.y c.p.z))).z.hi)
def vOk (js : Nat → J) (ms : Nat → Ms) (bx : Nat → Iv) (n m k : Nat) (c : Cn) : Bool := (cErr js ms n m (fun _ => c) 1) && pIn js ms bx n m k
noncomputable def vLo (js : Nat → J) (ms : Nat → Ms) (bx : Nat → Iv) (n m k : Nat) (c : Cn) : Int := bif vOk js ms bx n m k c then (vr c (LP js bx n c.link.toNat)).1 else 0
noncomputable def vHi (js : Nat → J) (ms : Nat → Ms) (bx : Nat → Iv) (n m k : Nat) (c : Cn) : Int := bif vOk js ms bx n m k c then (vr c (LP js bx n c.link.toNat)).2 else 0
theorem cErr_spec {js : Nat → J} {ms : Nat → Ms} {n m : Nat} {cs : Nat → Cn} {c : Nat} (h : cErr js ms n m cs c = true) : rErr js ms n m = 0 ∧ c ≤ 8 ∧ ∀ i, i < c → COK n (cs i) := by
 unfold cErr at h
 simp only [Bool.and_eq_true, decide_eq_true_eq, Bool.not_eq_true', decide_eq_false_iff_not] at h
 refine ⟨h.1, by omega, ?_⟩
 have key : ∀ k p, cAll cs n k p = true → ∀ i, p ≤ i → i < p + k → COK n (cs i) := by
  intro k
  induction k with
  | zero => intro p _ i h1 h2; omega
  | succ k ih =>
   intro p hp i h1 h2
   unfold cAll at hp
   rw [Bool.and_eq_true] at hp
   rcases Nat.eq_or_lt_of_le h1 with e | e
   ·subst e
    exact of_decide_eq_true hp.1
   ·exact ih (p + 1) hp.2 i e (by omega)
 exact fun i hi => key c 0 h.2.2 i (Nat.zero_le _) (by omega)
theorem one_cn (c : Cn) : ([cp c] : List (List PV)) = (List.range 1).map (fC (fun _ => c)) := rfl
theorem snd_Mc1 (js : Nat → J) (ms : Nat → Ms) (n m : Nat) (c : Cn) : SndA1 Tryz.prog 16 [.a [.lf n (fJ js), .lf m (fM ms)], .l [cp c]] (.v (.b (cErr js ms n m (fun _ => c) 1))) := snd_same (ps := [.a [.lf n (fJ js), .lf m (fM ms)], .lf 1 (fC (fun _ => c))]) ⟨Same.refl _, Same.lf (one_cn c), trivial⟩ (Same.refl _) (snd_Mc js ms n m (fun _ => c) 1)
theorem snd_Rc1 (js : Nat → J) (ms : Nat → Ms) (n m : Nat) (c : Cn) : SndA1 Tryz.prog 17 [.a [.lf n (fJ js), .lf m (fM ms)], .l [cp c]] (.v (.b (cErr js ms n m (fun _ => c) 1))) := snd_same (ps := [.a [.lf n (fJ js), .lf m (fM ms)], .lf 1 (fC (fun _ => c))]) ⟨Same.refl _, Same.lf (one_cn c), trivial⟩ (Same.refl _) (snd_Rc js ms n m (fun _ => c) 1)
noncomputable def o_lk (as_ : List PV) (g : Bool) (r : Ret) : List PV → Option (Bool × Ret) := fun ps => some (gEq (.t ps) (.t as_) && g, r)
theorem ok_lk {f : Nat} {as_ : List PV} {g : Bool} {r : Ret} (h : g = true → SndA1 Tryz.prog f as_ r) : OneOk Tryz.prog f (o_lk as_ g r) := by
 intro ps q hh
 unfold o_lk at hh
 simp only [Option.some.injEq, Prod.mk.injEq, Bool.and_eq_true] at hh
 obtain ⟨⟨hg, hb⟩, rfl⟩ := hh
 have := zZV hg
 simp only [PV.t.injEq] at this
 rw [this]
 exact h hb
theorem pIn_links (js : Nat → J) (ms : Nat → Ms) (bx : Nat → Iv) (n m k : Nat) (h : pIn js ms bx n m k = true) : SndA1 Tryz.prog 35 [.a [.lf n (fJ js), .lf m (fM ms)], .lf k (fB bx)] (.v (.lf n (fP (LP js bx n)))) := by
 obtain ⟨h0, rfl, hv⟩ := pIn_n h
 exact snd_ka js ms bx n m h0 (allN_iff.2 fun i _ hi => hv i (by omega))
theorem rIn_links (js : Nat → J) (ms : Nat → Ms) (bx : Nat → Iv) (n m k : Nat) (h : pIn js ms bx n m k = true) : SndA1 Tryz.prog 36 [.a [.lf n (fJ js), .lf m (fM ms)], .lf k (fB bx)] (.v (.lf n (fP (LP js bx n)))) := by
 obtain ⟨h0, rfl, hv⟩ := pIn_n h
 exact snd_rl js ms bx n m h0 (allN_iff.2 fun i _ hi => hv i (by omega))
theorem inB_link {n : Nat} {x : Int} (h : 0 ≤ x ∧ x < (n : Int)) : inB x n = true := by
 unfold inB
 rw [decide_eq_true h.1, decide_eq_true (show x.toNat < n by omega)]; rfl
set_option maxRecDepth 100000 in
theorem tr_V (js : Nat → J) (ms : Nat → Ms) (bx : Nat → Iv) (n m k : Nat) (c : Cn) : runK T (OrL.k ((16, zQK [.a [.lf n (fJ js), .lf m (fM ms)], .l [cp c]] (.v (.b (cErr js ms n m (fun _ => c) 1)))) :: (52, zQK [.a [.lf n (fJ js), .lf m (fM ms)], .lf k (fB bx)] (.v (.b (pIn js ms bx n m k)))) :: (35, o_lk [.a [.lf n (fJ js), .lf m (fM ms)], .lf k (fB bx)] (pIn js ms bx n m k) (.v (.lf n (fP (LP js bx n))))) :: L12)) 60 22 [.a [.lf n (fJ js), .lf m (fM ms)], .a (cp c), .lf k (fB bx)] =
 bif (g1 [.a [.lf n (fJ js), .lf m (fM ms)], .l [(cp c)]]) then (bif (cErr js ms n m (fun _ => c) 1) then (bif (g1 [.a [.lf n (fJ js), .lf m (fM ms)], .lf k (fB bx)]) then (bif (pIn js ms bx n m k) then (bif (g1 [.a [.lf n (fJ js), .lf m (fM ms)], .lf k (fB bx)] && pIn js ms bx n m k) then (bif (decide (c.kind = 1)) then (bif (inB c.link n) then some (.v (.t [.a [.n .i64 (dot (Z3.mk c.n.x c.n.y c.n.z).x (Z3.mk c.n.x c.n.y c.n.z).y (Z3.mk c.n.x c.n.y c.n.z).z (M3.apply (LP js bx n (c.link).toNat).r (V3.of (Z3.mk c.p.x c.p.y c.p.z))).x.lo (M3.apply (LP js bx n (c.link).toNat).r (V3.of (Z3.mk c.p.x c.p.y c.p.z))).x.hi (M3.apply (LP js bx n (c.link).toNat).r (V3.of (Z3.mk c.p.x c.p.y c.p.z))).y.lo (M3.apply (LP js bx n (c.link).toNat).r (V3.of (Z3.mk c.p.x c.p.y c.p.z))).y.hi (M3.apply (LP js bx n (c.link).toNat).r (V3.of (Z3.mk c.p.x c.p.y c.p.z))).z.lo (M3.apply (LP js bx n (c.link).toNat).r (V3.of (Z3.mk c.p.x c.p.y c.p.z))).z.hi).1, .n .i64 (dot (Z3.mk c.n.x c.n.y c.n.z).x (Z3.mk c.n.x c.n.y c.n.z).y (Z3.mk c.n.x c.n.y c.n.z).z (M3.apply (LP js bx n (c.link).toNat).r (V3.of (Z3.mk c.p.x c.p.y c.p.z))).x.lo (M3.apply (LP js bx n (c.link).toNat).r (V3.of (Z3.mk c.p.x c.p.y c.p.z))).x.hi (M3.apply (LP js bx n (c.link).toNat).r (V3.of (Z3.mk c.p.x c.p.y c.p.z))).y.lo (M3.apply (LP js bx n (c.link).toNat).r (V3.of (Z3.mk c.p.x c.p.y c.p.z))).y.hi (M3.apply (LP js bx n (c.link).toNat).r (V3.of (Z3.mk c.p.x c.p.y c.p.z))).z.lo (M3.apply (LP js bx n (c.link).toNat).r (V3.of (Z3.mk c.p.x c.p.y c.p.z))).z.hi).2], .b true]), [])
 else none)
 else bif (inB c.link n) then some (.v (.t [.a [.n .i64 (dot (Z3.mk c.n.x c.n.y c.n.z).x (Z3.mk c.n.x c.n.y c.n.z).y (Z3.mk c.n.x c.n.y c.n.z).z (Po.app (LP js bx n (c.link).toNat) (V3.of (Z3.mk c.p.x c.p.y c.p.z))).x.lo (Po.app (LP js bx n (c.link).toNat) (V3.of (Z3.mk c.p.x c.p.y c.p.z))).x.hi (Po.app (LP js bx n (c.link).toNat) (V3.of (Z3.mk c.p.x c.p.y c.p.z))).y.lo (Po.app (LP js bx n (c.link).toNat) (V3.of (Z3.mk c.p.x c.p.y c.p.z))).y.hi (Po.app (LP js bx n (c.link).toNat) (V3.of (Z3.mk c.p.x c.p.y c.p.z))).z.lo (Po.app (LP js bx n (c.link).toNat) (V3.of (Z3.mk c.p.x c.p.y c.p.z))).z.hi).1, .n .i64 (dot (Z3.mk c.n.x c.n.y c.n.z).x (Z3.mk c.n.x c.n.y c.n.z).y (Z3.mk c.n.x c.n.y c.n.z).z (Po.app (LP js bx n (c.link).toNat) (V3.of (Z3.mk c.p.x c.p.y c.p.z))).x.lo (Po.app (LP js bx n (c.link).toNat) (V3.of (Z3.mk c.p.x c.p.y c.p.z))).x.hi (Po.app (LP js bx n (c.link).toNat) (V3.of (Z3.mk c.p.x c.p.y c.p.z))).y.lo (Po.app (LP js bx n (c.link).toNat) (V3.of (Z3.mk c.p.x c.p.y c.p.z))).y.hi (Po.app (LP js bx n (c.link).toNat) (V3.of (Z3.mk c.p.x c.p.y c.p.z))).z.lo (Po.app (LP js bx n (c.link).toNat) (V3.of (Z3.mk c.p.x c.p.y c.p.z))).z.hi).2], .b true]), [])
 else none)
 else none)
 else some (.v (.t [.a [.n .i64 0, .n .i64 0], .b false]), []))
 else none)
 else some (.v (.t [.a [.n .i64 0, .n .i64 0], .b false]), []))
 else none := by kernel_rfl
theorem snd_V (js : Nat → J) (ms : Nat → Ms) (bx : Nat → Iv) (n m k : Nat) (c : Cn) : SndA1 Tryz.prog 22 [.a [.lf n (fJ js), .lf m (fM ms)], .a (cp c), .lf k (fB bx)] (.v (.t [.a [.n .i64 (vLo js ms bx n m k c), .n .i64 (vHi js ms bx n m k c)], .b (vOk js ms bx n m k c)])) := by
 refine uW (N := 60) tabOk mixed (OrL.ok (l := ((16, zQK [.a [.lf n (fJ js), .lf m (fM ms)], .l [cp c]] (.v (.b (cErr js ms n m (fun _ => c) 1)))) :: (52, zQK [.a [.lf n (fJ js), .lf m (fM ms)], .lf k (fB bx)] (.v (.b (pIn js ms bx n m k)))) :: (35, o_lk [.a [.lf n (fJ js), .lf m (fM ms)], .lf k (fB bx)] (pIn js ms bx n m k) (.v (.lf n (fP (LP js bx n))))) :: L12)) ⟨qHG (snd_Mc1 js ms n m c), qHG (snd_pIn js ms bx n m k), ok_lk (fun h => pIn_links js ms bx n m k h), L12_ok⟩) ?_
 refine (tr_V js ms bx n m k c).trans ?_
 unfold vLo vHi vOk
 simp only [zJZ, Bool.true_and]
 cases hc : (cErr js ms n m (fun _ => c) 1) with
 | false => rfl
 | true =>
  cases hi : pIn js ms bx n m k with
  | false => rfl
  | true =>
   obtain ⟨_, _, hh⟩ := cErr_spec hc
   have hk := (hh 0 (by omega)).2.1
   have hkk := (hh 0 (by omega)).1
   simp only [cond_true, Bool.and_self, inB_link hk]
   unfold vr
   cases decide (c.kind = 1) <;> rfl
noncomputable def o_rPoint : List PV → Option (Bool × Ret) := fun ps => match ps with
 | [.a z'] => (z3D z').bind fun z => some (true, .v (.a (v3C (V3.of z))))
 | _ => none
theorem ok_rPoint : OneOk Tryz.prog 33 o_rPoint := by
 intro ps r h
 unfold o_rPoint at h
 split at h
 ·simp only [Option.bind_eq_some_iff, Option.some.injEq, Prod.mk.injEq] at h
  obtain ⟨z, hz, hg, rfl⟩ := h
  rw [z3D_eq hz]
  exact qQY (zG Tryz.func33 (by kernel_rfl) (by kernel_rfl)) rfl rfl (fun w => zYK _ _ _ w)
 ·cases h
noncomputable def L13 : OrL := (33, o_rPoint) :: L12
theorem L13_ok : AllP (fun x : Nat × (List PV → Option (Bool × Ret)) => OneOk Tryz.prog x.1 x.2) L13 := ⟨ok_rPoint, L12_ok⟩
noncomputable def o_qApply : List PV → Option (Bool × Ret) := fun ps => match ps with
 | [.a p', .a v'] => (poD p').bind fun p => (v3D v').bind fun v => some (true, .v (.a (v3C (Po.app p v))))
 | _ => none
theorem ok_qApply : OneOk Tryz.prog 32 o_qApply := by
 intro ps r h
 unfold o_qApply at h
 split at h
 ·simp only [Option.bind_eq_some_iff, Option.some.injEq, Prod.mk.injEq] at h
  obtain ⟨p, hp, v, hv, hg, rfl⟩ := h
  rw [poD_eq hp]
  rw [v3D_eq hv]
  exact qQY (zG Tryz.func32 (by kernel_rfl) (by kernel_rfl)) rfl rfl (fun w => qApply _ _ _ _ _ _ _ _ _ _ _ _ _ _ _ _ _ _ _ _ _ _ _ _ _ _ _ _ _ _ w)
 ·cases h
noncomputable def L14 : OrL := (32, o_qApply) :: L13
theorem L14_ok : AllP (fun x : Nat × (List PV → Option (Bool × Ret)) => OneOk Tryz.prog x.1 x.2) L14 := ⟨ok_qApply, L13_ok⟩
noncomputable def o_rApply : List PV → Option (Bool × Ret) := fun ps => match ps with
 | [.a m', .a v'] => (m3D m').bind fun m => (v3D v').bind fun v => some (true, .v (.a (v3C (M3.apply m v))))
 | _ => none
theorem ok_rApply : OneOk Tryz.prog 63 o_rApply := by
 intro ps r h
 unfold o_rApply at h
 split at h
 ·simp only [Option.bind_eq_some_iff, Option.some.injEq, Prod.mk.injEq] at h
  obtain ⟨m, hm, v, hv, hg, rfl⟩ := h
  rw [m3D_eq hm]
  rw [v3D_eq hv]
  exact qQY (zG Tryz.func63 (by kernel_rfl) (by kernel_rfl)) rfl rfl (fun w => rApply _ _ _ _ _ _ _ _ _ _ _ _ _ _ _ _ _ _ _ _ _ _ _ _ w)
 ·cases h
noncomputable def L15 : OrL := (63, o_rApply) :: L14
theorem L15_ok : AllP (fun x : Nat × (List PV → Option (Bool × Ret)) => OneOk Tryz.prog x.1 x.2) L15 := ⟨ok_rApply, L14_ok⟩
set_option maxRecDepth 100000 in
theorem tr_rDot (nx : Int) (ny : Int) (nz : Int) (v0 : Int) (v1 : Int) (v2 : Int) (v3 : Int) (v4 : Int) (v5 : Int) : runK T (OrL.k L15) 60 87 [.a [.n .i64 nx, .n .i64 ny, .n .i64 nz], .a [.n .i64 v0, .n .i64 v1, .n .i64 v2, .n .i64 v3, .n .i64 v4, .n .i64 v5]] =
 bif (!((decide (nx = 0)) && ((decide (ny = 0)) && ((decide (nz = 0)) && true)))) then (bif (decide (nx < (-16384))) then some (.v (.t [.n .i64 0, .n .i64 0]), [])
  else bif (decide (16384 < nx)) then some (.v (.t [.n .i64 0, .n .i64 0]), [])
  else bif (decide (ny < (-16384))) then some (.v (.t [.n .i64 0, .n .i64 0]), [])
  else bif (decide (16384 < ny)) then some (.v (.t [.n .i64 0, .n .i64 0]), [])
  else bif (decide (nz < (-16384))) then some (.v (.t [.n .i64 0, .n .i64 0]), [])
  else bif (decide (16384 < nz)) then some (.v (.t [.n .i64 0, .n .i64 0]), [])
  else bif (decide (v0 < (-268435456))) then some (.v (.t [.n .i64 0, .n .i64 0]), [])
  else bif (decide (v1 < v0)) then some (.v (.t [.n .i64 0, .n .i64 0]), [])
  else bif (decide (268435456 < v1)) then some (.v (.t [.n .i64 0, .n .i64 0]), [])
  else bif (decide (v2 < (-268435456))) then some (.v (.t [.n .i64 0, .n .i64 0]), [])
  else bif (decide (v3 < v2)) then some (.v (.t [.n .i64 0, .n .i64 0]), [])
  else bif (decide (268435456 < v3)) then some (.v (.t [.n .i64 0, .n .i64 0]), [])
  else bif (decide (v4 < (-268435456))) then some (.v (.t [.n .i64 0, .n .i64 0]), [])
  else bif (decide (v5 < v4)) then some (.v (.t [.n .i64 0, .n .i64 0]), [])
  else bif (decide (268435456 < v5)) then some (.v (.t [.n .i64 0, .n .i64 0]), [])
  else some (.v (.t [.n .i64 (IntKind.i64.wrap ((IntKind.i64.wrap ((IntKind.i64.wrap (0 + (min (IntKind.i64.wrap (nx * v0)) (IntKind.i64.wrap (nx * v1))))) + (min (IntKind.i64.wrap (ny * v2)) (IntKind.i64.wrap (ny * v3))))) + (min (IntKind.i64.wrap (nz * v4)) (IntKind.i64.wrap (nz * v5))))), .n .i64 (IntKind.i64.wrap ((IntKind.i64.wrap ((IntKind.i64.wrap (0 + (max (IntKind.i64.wrap (nx * v0)) (IntKind.i64.wrap (nx * v1))))) + (max (IntKind.i64.wrap (ny * v2)) (IntKind.i64.wrap (ny * v3))))) + (max (IntKind.i64.wrap (nz * v4)) (IntKind.i64.wrap (nz * v5)))))]), []))
 else some (.v (.t [.n .i64 0, .n .i64 0]), []) := by kernel_rfl
theorem sp_rDot (nx ny nz v0 v1 v2 v3 v4 v5 : Int) : runK T (OrL.k L15) 60 87 [.a [.n .i64 nx, .n .i64 ny, .n .i64 nz], .a [.n .i64 v0, .n .i64 v1, .n .i64 v2, .n .i64 v3, .n .i64 v4, .n .i64 v5]] = some (.v (.t [.n .i64 (dot nx ny nz v0 v1 v2 v3 v4 v5).1, .n .i64 (dot nx ny nz v0 v1 v2 v3 v4 v5).2]), []) := by
 rw [tr_rDot, ← sp_sDot, tr_sDot]
 cases (!((decide (nx = 0)) && ((decide (ny = 0)) && ((decide (nz = 0)) && true)))) with
 | true => rfl
 | false => simp only [cond_false, Bool.cond_self]
noncomputable def o_rDot : List PV → Option (Bool × Ret) := fun ps => match ps with
 | [.a z', .a v'] => (z3D z').bind fun z => (v3D v').bind fun v => some (true, .v (.t [.n .i64 (dot z.x z.y z.z v.x.lo v.x.hi v.y.lo v.y.hi v.z.lo v.z.hi).1, .n .i64 (dot z.x z.y z.z v.x.lo v.x.hi v.y.lo v.y.hi v.z.lo v.z.hi).2]))
 | _ => none
theorem ok_rDot : OneOk Tryz.prog 87 o_rDot := by
 intro ps r h
 unfold o_rDot at h
 split at h
 ·simp only [Option.bind_eq_some_iff, Option.some.injEq, Prod.mk.injEq] at h
  obtain ⟨z, hz, v, hv, hg, rfl⟩ := h
  rw [z3D_eq hz]
  rw [v3D_eq hv]
  exact uW tabOk mixed (OrL.ok L15_ok) (sp_rDot _ _ _ _ _ _ _ _ _)
 ·cases h
noncomputable def L16 : OrL := (87, o_rDot) :: L15
theorem L16_ok : AllP (fun x : Nat × (List PV → Option (Bool × Ret)) => OneOk Tryz.prog x.1 x.2) L16 := ⟨ok_rDot, L15_ok⟩
set_option maxRecDepth 100000 in
theorem tr_RV (js : Nat → J) (ms : Nat → Ms) (bx : Nat → Iv) (n m k : Nat) (c : Cn) : runK T (OrL.k ((17, zQK [.a [.lf n (fJ js), .lf m (fM ms)], .l [cp c]] (.v (.b (cErr js ms n m (fun _ => c) 1)))) :: (86, zQK [.a [.lf n (fJ js), .lf m (fM ms)], .lf k (fB bx)] (.v (.b (rIn js ms bx n m k)))) :: (36, o_lk [.a [.lf n (fJ js), .lf m (fM ms)], .lf k (fB bx)] (pIn js ms bx n m k) (.v (.lf n (fP (LP js bx n))))) :: L16)) 60 48 [.a [.lf n (fJ js), .lf m (fM ms)], .a (cp c), .lf k (fB bx)] =
 bif (g1 [.a [.lf n (fJ js), .lf m (fM ms)], .l [(cp c)]]) then (bif (cErr js ms n m (fun _ => c) 1) then (bif (g1 [.a [.lf n (fJ js), .lf m (fM ms)], .lf k (fB bx)]) then (bif (rIn js ms bx n m k) then (bif (g1 [.a [.lf n (fJ js), .lf m (fM ms)], .lf k (fB bx)] && pIn js ms bx n m k) then (bif (inB c.link n) then (bif (decide (c.kind = 0)) then some (.v (.t [.a [.n .i64 (dot (Z3.mk c.n.x c.n.y c.n.z).x (Z3.mk c.n.x c.n.y c.n.z).y (Z3.mk c.n.x c.n.y c.n.z).z (Po.app (LP js bx n (c.link).toNat) (V3.of (Z3.mk c.p.x c.p.y c.p.z))).x.lo (Po.app (LP js bx n (c.link).toNat) (V3.of (Z3.mk c.p.x c.p.y c.p.z))).x.hi (Po.app (LP js bx n (c.link).toNat) (V3.of (Z3.mk c.p.x c.p.y c.p.z))).y.lo (Po.app (LP js bx n (c.link).toNat) (V3.of (Z3.mk c.p.x c.p.y c.p.z))).y.hi (Po.app (LP js bx n (c.link).toNat) (V3.of (Z3.mk c.p.x c.p.y c.p.z))).z.lo (Po.app (LP js bx n (c.link).toNat) (V3.of (Z3.mk c.p.x c.p.y c.p.z))).z.hi).1, .n .i64 (dot (Z3.mk c.n.x c.n.y c.n.z).x (Z3.mk c.n.x c.n.y c.n.z).y (Z3.mk c.n.x c.n.y c.n.z).z (Po.app (LP js bx n (c.link).toNat) (V3.of (Z3.mk c.p.x c.p.y c.p.z))).x.lo (Po.app (LP js bx n (c.link).toNat) (V3.of (Z3.mk c.p.x c.p.y c.p.z))).x.hi (Po.app (LP js bx n (c.link).toNat) (V3.of (Z3.mk c.p.x c.p.y c.p.z))).y.lo (Po.app (LP js bx n (c.link).toNat) (V3.of (Z3.mk c.p.x c.p.y c.p.z))).y.hi (Po.app (LP js bx n (c.link).toNat) (V3.of (Z3.mk c.p.x c.p.y c.p.z))).z.lo (Po.app (LP js bx n (c.link).toNat) (V3.of (Z3.mk c.p.x c.p.y c.p.z))).z.hi).2], .b true]), [])
 else some (.v (.t [.a [.n .i64 (dot (Z3.mk c.n.x c.n.y c.n.z).x (Z3.mk c.n.x c.n.y c.n.z).y (Z3.mk c.n.x c.n.y c.n.z).z (M3.apply (LP js bx n (c.link).toNat).r (V3.of (Z3.mk c.p.x c.p.y c.p.z))).x.lo (M3.apply (LP js bx n (c.link).toNat).r (V3.of (Z3.mk c.p.x c.p.y c.p.z))).x.hi (M3.apply (LP js bx n (c.link).toNat).r (V3.of (Z3.mk c.p.x c.p.y c.p.z))).y.lo (M3.apply (LP js bx n (c.link).toNat).r (V3.of (Z3.mk c.p.x c.p.y c.p.z))).y.hi (M3.apply (LP js bx n (c.link).toNat).r (V3.of (Z3.mk c.p.x c.p.y c.p.z))).z.lo (M3.apply (LP js bx n (c.link).toNat).r (V3.of (Z3.mk c.p.x c.p.y c.p.z))).z.hi).1, .n .i64 (dot (Z3.mk c.n.x c.n.y c.n.z).x (Z3.mk c.n.x c.n.y c.n.z).y (Z3.mk c.n.x c.n.y c.n.z).z (M3.apply (LP js bx n (c.link).toNat).r (V3.of (Z3.mk c.p.x c.p.y c.p.z))).x.lo (M3.apply (LP js bx n (c.link).toNat).r (V3.of (Z3.mk c.p.x c.p.y c.p.z))).x.hi (M3.apply (LP js bx n (c.link).toNat).r (V3.of (Z3.mk c.p.x c.p.y c.p.z))).y.lo (M3.apply (LP js bx n (c.link).toNat).r (V3.of (Z3.mk c.p.x c.p.y c.p.z))).y.hi (M3.apply (LP js bx n (c.link).toNat).r (V3.of (Z3.mk c.p.x c.p.y c.p.z))).z.lo (M3.apply (LP js bx n (c.link).toNat).r (V3.of (Z3.mk c.p.x c.p.y c.p.z))).z.hi).2], .b true]), []))
 else none)
 else none)
 else some (.v (.t [.a [.n .i64 0, .n .i64 0], .b false]), []))
 else none)
 else some (.v (.t [.a [.n .i64 0, .n .i64 0], .b false]), []))
 else none := by kernel_rfl
theorem snd_RV (js : Nat → J) (ms : Nat → Ms) (bx : Nat → Iv) (n m k : Nat) (c : Cn) (hkk : k ≤ 50) : SndA1 Tryz.prog 48 [.a [.lf n (fJ js), .lf m (fM ms)], .a (cp c), .lf k (fB bx)] (.v (.t [.a [.n .i64 (vLo js ms bx n m k c), .n .i64 (vHi js ms bx n m k c)], .b (vOk js ms bx n m k c)])) := by
 refine uW (N := 60) tabOk mixed (OrL.ok (l := ((17, zQK [.a [.lf n (fJ js), .lf m (fM ms)], .l [cp c]] (.v (.b (cErr js ms n m (fun _ => c) 1)))) :: (86, zQK [.a [.lf n (fJ js), .lf m (fM ms)], .lf k (fB bx)] (.v (.b (rIn js ms bx n m k)))) :: (36, o_lk [.a [.lf n (fJ js), .lf m (fM ms)], .lf k (fB bx)] (pIn js ms bx n m k) (.v (.lf n (fP (LP js bx n))))) :: L16)) ⟨qHG (snd_Rc1 js ms n m c), qHG (snd_rIn js ms bx n m k hkk), ok_lk (fun h => rIn_links js ms bx n m k h), L16_ok⟩) ?_
 refine (tr_RV js ms bx n m k c).trans ?_
 unfold vLo vHi vOk
 simp only [zJZ, Bool.true_and]
 rw [in_eq]
 cases hc : (cErr js ms n m (fun _ => c) 1) with
 | false => rfl
 | true =>
  cases hi : pIn js ms bx n m k with
  | false => rfl
  | true =>
   obtain ⟨_, _, hh⟩ := cErr_spec hc
   have hk := (hh 0 (by omega)).2.1
   have hkk := (hh 0 (by omega)).1
   simp only [cond_true, Bool.and_self, inB_link hk]
   unfold vr
   rcases hkk with h | h
   ·rw [decide_eq_true h, decide_eq_false (show ¬ c.kind = 1 by omega)]; rfl
   ·rw [decide_eq_false (show ¬ c.kind = 0 by omega), decide_eq_true h]; rfl
end Go.Proofs.YtmbnpjpggccefaaGreat.Ng
namespace Go.Proofs.YtmbnpjpggccefaaGreat.Nh
open Go.Rx Rt Go.Sx Go.RowKit Od Ov Pc Na Nb Nc Nd Nee Nf Ng
theorem snd_values (js : Nat → J) (ms : Nat → Ms) (bx : Nat → Iv) (n m k : Nat) (c : Cn) (hk : k ≤ 50) : SndA1 Tryz.prog 18 [.a [.lf n (fJ js), .lf m (fM ms)], .a (cp c), .lf k (fB bx)] (.v (.b true)) := by
 refine uW (N := 60) tabOk mixed (OrL.ok (l := [(22, zQK [.a [.lf n (fJ js), .lf m (fM ms)], .a (cp c), .lf k (fB bx)] (.v (.t [.a [.n .i64 (vLo js ms bx n m k c), .n .i64 (vHi js ms bx n m k c)], .b (vOk js ms bx n m k c)]))), (48, zQK [.a [.lf n (fJ js), .lf m (fM ms)], .a (cp c), .lf k (fB bx)] (.v (.t [.a [.n .i64 (vLo js ms bx n m k c), .n .i64 (vHi js ms bx n m k c)], .b (vOk js ms bx n m k c)])))]) ⟨qHG (snd_V js ms bx n m k c), qHG (snd_RV js ms bx n m k c hk), trivial⟩) ?_
 refine (by kernel_rfl : _ = bif (g1 [.a [.lf n (fJ js), .lf m (fM ms)], .a (cp c), .lf k (fB bx)]) then (bif (vOk js ms bx n m k c) then (bif (g1 [.a [.lf n (fJ js), .lf m (fM ms)], .a (cp c), .lf k (fB bx)]) then (bif (vOk js ms bx n m k c) then (bif ((decide ((vLo js ms bx n m k c) = (vLo js ms bx n m k c))) && ((decide ((vHi js ms bx n m k c) = (vHi js ms bx n m k c))) && true)) then some (.v (.b true), [])
 else some (.v (.b false), []))
 else bif ((decide ((vLo js ms bx n m k c) = (vLo js ms bx n m k c))) && ((decide ((vHi js ms bx n m k c) = (vHi js ms bx n m k c))) && true)) then some (.v (.b false), [])
 else some (.v (.b false), []))
 else none)
 else bif (g1 [.a [.lf n (fJ js), .lf m (fM ms)], .a (cp c), .lf k (fB bx)]) then (bif (vOk js ms bx n m k c) then (bif ((decide ((vLo js ms bx n m k c) = (vLo js ms bx n m k c))) && ((decide ((vHi js ms bx n m k c) = (vHi js ms bx n m k c))) && true)) then some (.v (.b false), [])
 else some (.v (.b false), []))
 else bif ((decide ((vLo js ms bx n m k c) = (vLo js ms bx n m k c))) && ((decide ((vHi js ms bx n m k c) = (vHi js ms bx n m k c))) && true)) then some (.v (.b true), [])
 else some (.v (.b false), []))
 else none)
 else none).trans ?_
 simp only [zJZ, cond_true, decide_true, beq_self_eq_true, Bool.and_self]
 cases vOk js ms bx n m k c <;> rfl
noncomputable def gP (p : Prop) : Bool := @decide p (Classical.propDecidable _)
theorem gP_of {p : Prop} (h : p) : gP p = true := @decide_eq_true _ (Classical.propDecidable _) h
theorem gP_spec {p : Prop} (h : gP p = true) : p := @of_decide_eq_true _ (Classical.propDecidable _) h
def qWW (ps : List PV) : Prop := ∃ (js : Nat → J) (ms : Nat → Ms) (bx : Nat → Iv) (n m k : Nat) (c : Cn), k ≤ 50 ∧ ps = [.a [.lf n (fJ js), .lf m (fM ms)], .a (cp c), .lf k (fB bx)]
noncomputable def o_vals : List PV → Option (Bool × Ret) := fun ps => some (gP (qWW ps), .v (.b true))
theorem ok_vals : OneOk Tryz.prog 18 o_vals := by
 intro ps r hh
 unfold o_vals at hh
 simp only [Option.some.injEq, Prod.mk.injEq] at hh
 obtain ⟨hg, rfl⟩ := hh
 obtain ⟨js, ms, bx, n, m, k, c, hk, rfl⟩ := gP_spec hg
 exact snd_values js ms bx n m k c hk
def isChk (ps : List PV) : Prop := ∃ (js : Nat → J) (ms : Nat → Ms) (n m : Nat) (cs : Nat → Cn) (c : Nat), ps = [.a [.lf n (fJ js), .lf m (fM ms)], .lf c (fC cs)]
theorem chk_ex (ps : List PV) : ∃ b : Bool, isChk ps → SndA1 Tryz.prog 16 ps (.v (.b b)) ∧ SndA1 Tryz.prog 17 ps (.v (.b b)) := by
 by_cases h : isChk ps
 ·obtain ⟨js, ms, n, m, cs, c, rfl⟩ := h
  exact ⟨cErr js ms n m cs c, fun _ => ⟨snd_Mc js ms n m cs c, snd_Rc js ms n m cs c⟩⟩
 ·exact ⟨false, fun h' => absurd h' h⟩
noncomputable def chkB (ps : List PV) : Bool := Classical.choose (chk_ex ps)
noncomputable def zYX : List PV → Option (Bool × Ret) := fun ps => some (gP (isChk ps), .v (.b (chkB ps)))
theorem ok_chkM : OneOk Tryz.prog 16 zYX := by
 intro ps r hh
 unfold zYX at hh
 simp only [Option.some.injEq, Prod.mk.injEq] at hh
 obtain ⟨hg, rfl⟩ := hh
 exact (Classical.choose_spec (chk_ex ps) (gP_spec hg)).1
theorem ok_chkR : OneOk Tryz.prog 17 zYX := by
 intro ps r hh
 unfold zYX at hh
 simp only [Option.some.injEq, Prod.mk.injEq] at hh
 obtain ⟨hg, rfl⟩ := hh
 exact (Classical.choose_spec (chk_ex ps) (gP_spec hg)).2
set_option maxRecDepth 100000 in
theorem tr_law (js : Nat → J) (ms : Nat → Ms) (n m : Nat) (cs : Nat → Cn) (lc : Nat) (c : Cn) (bx : Nat → Iv) (k : Nat) (ja : Nat → J) (ma : Nat → Ms) (na ga : Nat) (cd : Nat → Cn) (d : Nat) (be : Nat → Iv) (ke : Nat) (L M O : List (List PV)) (q u : Int) : runK T (OrL.k [(12, zQK [] (.v (.b true))), (13, zQK [.l L] (.v (.a [.lf na (fJ ja), .lf ga (fM ma)]))), (15, zQK [.n .i64 q, .n .i64 9] (.v (.n .i64 u))), (14, zQK [.a [.lf na (fJ ja), .lf ga (fM ma)], .n .i64 (IntKind.i64.wrap (1 + u)), .l M] (.v (.lf d (fC cd)))), (8, zQK [.a [.lf na (fJ ja), .lf ga (fM ma)], .l O] (.v (.lf ke (fB be)))), (16, zYX), (17, zYX), (18, o_vals)]) 60 4 [.a [.lf n (fJ js), .lf m (fM ms)], .lf lc (fC cs), .a (cp c), .lf k (fB bx), .l L, .l M, .l O, .n .i64 q] =
 bif (decide ((n : Int) ≤ 12)) then (bif (decide ((lc : Int) ≤ 20)) then (bif (decide (20 < (k : Int))) then (bif (g1 []) then some (.v (.b true), [])
 else none)
 else bif (g1 [(.l L)]) then (bif (g1 [.n .i64 q, .n .i64 9]) then (bif (g1 [.a [.lf na (fJ ja), .lf ga (fM ma)], .n .i64 (IntKind.i64.wrap (1 + u)), (.l M)]) then (bif (g1 []) then (bif (gP (isChk [.a [.lf n (fJ js), .lf m (fM ms)], .lf lc (fC cs)])) then (bif (chkB [.a [.lf n (fJ js), .lf m (fM ms)], .lf lc (fC cs)]) then (bif (gP (isChk [.a [.lf n (fJ js), .lf m (fM ms)], .lf lc (fC cs)])) then (bif (chkB [.a [.lf n (fJ js), .lf m (fM ms)], .lf lc (fC cs)]) then (bif (gP (isChk [.a [.lf na (fJ ja), .lf ga (fM ma)], .lf d (fC cd)])) then (bif (chkB [.a [.lf na (fJ ja), .lf ga (fM ma)], .lf d (fC cd)]) then (bif (gP (isChk [.a [.lf na (fJ ja), .lf ga (fM ma)], .lf d (fC cd)])) then (bif (chkB [.a [.lf na (fJ ja), .lf ga (fM ma)], .lf d (fC cd)]) then (bif (gP (qWW [.a [.lf n (fJ js), .lf m (fM ms)], .a (cp c), .lf k (fB bx)])) then (bif (inB 0 d) then (bif (g1 [.a [.lf na (fJ ja), .lf ga (fM ma)], (.l O)]) then (bif (gP (qWW [.a [.lf na (fJ ja), .lf ga (fM ma)], .a (cp (cd 0)), .lf ke (fB be)])) then (bif (g1 [.a [.lf na (fJ ja), .lf ga (fM ma)], (.l O)]) then (bif (gP (qWW [.a [.lf na (fJ ja), .lf ga (fM ma)], .a (cp c), .lf ke (fB be)])) then (bif (inB 0 d) then (bif (gP (qWW [.a [.lf na (fJ ja), .lf ga (fM ma)], .a (cp (cd 0)), .lf k (fB bx)])) then some (.v (.b true), [])
 else none)
 else none)
 else none)
 else none)
 else none)
 else none)
 else none)
 else none)
 else some (.v (.b false), []))
 else none)
 else bif (gP (isChk [.a [.lf na (fJ ja), .lf ga (fM ma)], .lf d (fC cd)])) then (bif (chkB [.a [.lf na (fJ ja), .lf ga (fM ma)], .lf d (fC cd)]) then some (.v (.b false), [])
 else bif (gP (qWW [.a [.lf n (fJ js), .lf m (fM ms)], .a (cp c), .lf k (fB bx)])) then (bif (inB 0 d) then (bif (g1 [.a [.lf na (fJ ja), .lf ga (fM ma)], (.l O)]) then (bif (gP (qWW [.a [.lf na (fJ ja), .lf ga (fM ma)], .a (cp (cd 0)), .lf ke (fB be)])) then (bif (g1 [.a [.lf na (fJ ja), .lf ga (fM ma)], (.l O)]) then (bif (gP (qWW [.a [.lf na (fJ ja), .lf ga (fM ma)], .a (cp c), .lf ke (fB be)])) then (bif (inB 0 d) then (bif (gP (qWW [.a [.lf na (fJ ja), .lf ga (fM ma)], .a (cp (cd 0)), .lf k (fB bx)])) then some (.v (.b true), [])
 else none)
 else none)
 else none)
 else none)
 else none)
 else none)
 else none)
 else none)
 else none)
 else none)
 else some (.v (.b false), []))
 else none)
 else bif (gP (isChk [.a [.lf n (fJ js), .lf m (fM ms)], .lf lc (fC cs)])) then (bif (chkB [.a [.lf n (fJ js), .lf m (fM ms)], .lf lc (fC cs)]) then some (.v (.b false), [])
 else bif (gP (isChk [.a [.lf na (fJ ja), .lf ga (fM ma)], .lf d (fC cd)])) then (bif (chkB [.a [.lf na (fJ ja), .lf ga (fM ma)], .lf d (fC cd)]) then (bif (gP (isChk [.a [.lf na (fJ ja), .lf ga (fM ma)], .lf d (fC cd)])) then (bif (chkB [.a [.lf na (fJ ja), .lf ga (fM ma)], .lf d (fC cd)]) then (bif (gP (qWW [.a [.lf n (fJ js), .lf m (fM ms)], .a (cp c), .lf k (fB bx)])) then (bif (inB 0 d) then (bif (g1 [.a [.lf na (fJ ja), .lf ga (fM ma)], (.l O)]) then (bif (gP (qWW [.a [.lf na (fJ ja), .lf ga (fM ma)], .a (cp (cd 0)), .lf ke (fB be)])) then (bif (g1 [.a [.lf na (fJ ja), .lf ga (fM ma)], (.l O)]) then (bif (gP (qWW [.a [.lf na (fJ ja), .lf ga (fM ma)], .a (cp c), .lf ke (fB be)])) then (bif (inB 0 d) then (bif (gP (qWW [.a [.lf na (fJ ja), .lf ga (fM ma)], .a (cp (cd 0)), .lf k (fB bx)])) then some (.v (.b true), [])
 else none)
 else none)
 else none)
 else none)
 else none)
 else none)
 else none)
 else none)
 else some (.v (.b false), []))
 else none)
 else bif (gP (isChk [.a [.lf na (fJ ja), .lf ga (fM ma)], .lf d (fC cd)])) then (bif (chkB [.a [.lf na (fJ ja), .lf ga (fM ma)], .lf d (fC cd)]) then some (.v (.b false), [])
 else bif (gP (qWW [.a [.lf n (fJ js), .lf m (fM ms)], .a (cp c), .lf k (fB bx)])) then (bif (inB 0 d) then (bif (g1 [.a [.lf na (fJ ja), .lf ga (fM ma)], (.l O)]) then (bif (gP (qWW [.a [.lf na (fJ ja), .lf ga (fM ma)], .a (cp (cd 0)), .lf ke (fB be)])) then (bif (g1 [.a [.lf na (fJ ja), .lf ga (fM ma)], (.l O)]) then (bif (gP (qWW [.a [.lf na (fJ ja), .lf ga (fM ma)], .a (cp c), .lf ke (fB be)])) then (bif (inB 0 d) then (bif (gP (qWW [.a [.lf na (fJ ja), .lf ga (fM ma)], .a (cp (cd 0)), .lf k (fB bx)])) then some (.v (.b true), [])
 else none)
 else none)
 else none)
 else none)
 else none)
 else none)
 else none)
 else none)
 else none)
 else none)
 else none)
 else none)
 else none)
 else none)
 else none)
 else none)
 else bif (g1 []) then some (.v (.b true), [])
 else none)
 else bif (g1 []) then some (.v (.b true), [])
 else none := by kernel_rfl
theorem gen_law (js : Nat → J) (ms : Nat → Ms) (n m : Nat) (cs : Nat → Cn) (lc : Nat) (c : Cn) (bx : Nat → Iv) (k : Nat) (ja : Nat → J) (ma : Nat → Ms) (na ga : Nat) (cd : Nat → Cn) (d : Nat) (be : Nat → Iv) (ke : Nat) (L M O : List (List PV)) (q u : Int) (hd : 0 < d) (hke : ke ≤ 50) (h0 : SndA1 Tryz.prog 12 [] (.v (.b true))) (h1 : SndA1 Tryz.prog 13 [.l L] (.v (.a [.lf na (fJ ja), .lf ga (fM ma)]))) (h2 : SndA1 Tryz.prog 15 [.n .i64 q, .n .i64 9] (.v (.n .i64 u))) (h3 : SndA1 Tryz.prog 14 [.a [.lf na (fJ ja), .lf ga (fM ma)], .n .i64 (IntKind.i64.wrap (1 + u)), .l M] (.v (.lf d (fC cd)))) (h4 : SndA1 Tryz.prog 8 [.a [.lf na (fJ ja), .lf ga (fM ma)], .l O] (.v (.lf ke (fB be)))) :
  SndA1 Tryz.prog 4 [.a [.lf n (fJ js), .lf m (fM ms)], .lf lc (fC cs), .a (cp c), .lf k (fB bx), .l L, .l M, .l O, .n .i64 q] (.v (.b true)) := by
 refine uW (N := 60) tabOk mixed (OrL.ok (l := [(12, zQK [] (.v (.b true))), (13, zQK [.l L] (.v (.a [.lf na (fJ ja), .lf ga (fM ma)]))), (15, zQK [.n .i64 q, .n .i64 9] (.v (.n .i64 u))), (14, zQK [.a [.lf na (fJ ja), .lf ga (fM ma)], .n .i64 (IntKind.i64.wrap (1 + u)), .l M] (.v (.lf d (fC cd)))), (8, zQK [.a [.lf na (fJ ja), .lf ga (fM ma)], .l O] (.v (.lf ke (fB be)))), (16, zYX), (17, zYX), (18, o_vals)]) ⟨qHG h0, qHG h1, qHG h2, qHG h3, qHG h4, ok_chkM, ok_chkR, ok_vals, trivial⟩) ?_
 refine (tr_law js ms n m cs lc c bx k ja ma na ga cd d be ke L M O q u).trans ?_
 have c1 : gP (isChk [.a [.lf n (fJ js), .lf m (fM ms)], .lf lc (fC cs)]) = true := gP_of ⟨js, ms, n, m, cs, lc, rfl⟩
 have c2 : gP (isChk [.a [.lf na (fJ ja), .lf ga (fM ma)], .lf d (fC cd)]) = true := gP_of ⟨ja, ma, na, ga, cd, d, rfl⟩
 have e0 : inB 0 d = true := qUW (p := 0) hd
 by_cases hk : 20 < (k : Int)
 ·simp only [decide_eq_true hk, zJZ, cond_true, Bool.cond_self]
 ·have v1 : gP (qWW [.a [.lf n (fJ js), .lf m (fM ms)], .a (cp c), .lf k (fB bx)]) = true := gP_of ⟨js, ms, bx, n, m, k, c, by omega, rfl⟩
  have v2 : gP (qWW [.a [.lf na (fJ ja), .lf ga (fM ma)], .a (cp (cd 0)), .lf ke (fB be)]) = true := gP_of ⟨ja, ma, be, na, ga, ke, cd 0, by omega, rfl⟩
  have v3 : gP (qWW [.a [.lf na (fJ ja), .lf ga (fM ma)], .a (cp c), .lf ke (fB be)]) = true := gP_of ⟨ja, ma, be, na, ga, ke, c, by omega, rfl⟩
  have v4 : gP (qWW [.a [.lf na (fJ ja), .lf ga (fM ma)], .a (cp (cd 0)), .lf k (fB bx)]) = true := gP_of ⟨ja, ma, bx, na, ga, k, cd 0, by omega, rfl⟩
  simp only [decide_eq_false hk, zJZ, c1, c2, e0, v1, v2, v3, v4, cond_true, cond_false]
  cases chkB [.a [.lf n (fJ js), .lf m (fM ms)], .lf lc (fC cs)] <;> cases chkB [.a [.lf na (fJ ja), .lf ga (fM ma)], .lf d (fC cd)] <;> simp only [cond_true, cond_false, Bool.cond_self]
def j0 : J := ⟨ByteArray.empty, 0, 0, ⟨0, 0, 0⟩, 0, 0, 0, 0, 0, 0⟩
def m0 : Ms := ⟨0, 0, ⟨0, 0, 0⟩⟩
def c0 : Cn := ⟨0, 0, ⟨0, 0, 0⟩, ⟨0, 0, 0⟩, 0, 0⟩
def jaOf (l : List Int) : Nat → J := fun i => (jsOf l 0 (nJ l 0)).1.getD i j0
def maOf (l : List Int) : Nat → Ms := fun i => (msOf l 0 (nM l 0)).getD i m0
theorem rob_same (l : List Int) : Same (robP l) (.a [.lf (nJ l 0) (fJ (jaOf l)), .lf (nM l 0) (fM (maOf l))]) := by
 refine Same.a ⟨Same.lf ?_, Same.lf ?_, trivial⟩
 ·have := rows_fn j0 jp (jsOf l 0 (nJ l 0)).1
  rw [qGW] at this
  exact this
 ·have := rows_fn m0 mp (msOf l 0 (nM l 0))
  rw [msOf_len] at this
  exact this
theorem rob_same' (l : List Int) : Same (.a [.lf (nJ l 0) (fJ (jaOf l)), .lf (nM l 0) (fM (maOf l))]) (robP l) := by
 refine Same.a ⟨Same.l ?_, Same.l ?_, trivial⟩
 ·have := rows_fn j0 jp (jsOf l 0 (nJ l 0)).1
  rw [qGW] at this
  exact this
 ·have := rows_fn m0 mp (msOf l 0 (nM l 0))
  rw [msOf_len] at this
  exact this
noncomputable def cdOf (l m : List Int) (n : Nat) : Nat → Cn := fun i => (consOf l m n).getD i c0
def beOf (l o : List Int) : Nat → Iv := fun i => (boxOf l o).getD i ⟨0, 0⟩
theorem snd_robF {l : List Int} (hl : l.length ≤ 9223372036854775807) : SndA1 Tryz.prog 13 [intsP l] (.v (.a [.lf (nJ l 0) (fJ (jaOf l)), .lf (nM l 0) (fM (maOf l))])) := snd_res (rob_same l) (snd_robot hl)
theorem snd_consF {l m : List Int} {n : Nat} (hn : n ≤ 1000) (hm : m.length ≤ 9223372036854775807) : SndA1 Tryz.prog 14 [.a [.lf (nJ l 0) (fJ (jaOf l)), .lf (nM l 0) (fM (maOf l))], .n .i64 n, intsP m] (.v (.lf n (fC (cdOf l m n)))) := by
 refine snd_same (ps := [robP l, .n .i64 n, intsP m]) ⟨rob_same' l, Same.refl _, Same.refl _, trivial⟩ (Same.lf ?_) (snd_cons hn hm)
 have := rows_fn c0 cp (consOf l m n)
 rw [show (consOf l m n).length = n from cnsOf_len _ _ _ _] at this
 exact this
theorem snd_boxF {l o : List Int} (ho : o.length ≤ 9223372036854775807) : SndA1 Tryz.prog 8 [.a [.lf (nJ l 0) (fJ (jaOf l)), .lf (nM l 0) (fM (maOf l))], intsP o] (.v (.lf (nJ l 0) (fB (beOf l o)))) := by
 refine snd_same (ps := [robP l, intsP o]) ⟨rob_same' l, Same.refl _, trivial⟩ (Same.lf ?_) (snd_box ho)
 have := rows_fn (⟨0, 0⟩ : Iv) Rx.ivC (boxOf l o)
 rw [boxOf_len] at this
 exact this
theorem snd_law (js : Nat → J) (ms : Nat → Ms) (n m : Nat) (cs : Nat → Cn) (lc : Nat) (c : Cn) (bx : Nat → Iv) (k : Nat) (l m' o : List Int) (q : Int) (hl : l.length ≤ 9223372036854775807) (hm : m'.length ≤ 9223372036854775807) (ho : o.length ≤ 9223372036854775807) (h0 : SndA1 Tryz.prog 12 [] (.v (.b true))) :
  SndA1 Tryz.prog 4 [.a [.lf n (fJ js), .lf m (fM ms)], .lf lc (fC cs), .a (cp c), .lf k (fB bx), intsP l, intsP m', intsP o, .n .i64 q] (.v (.b true)) := by
 have hb := nJ_b l 0
 have hu : 0 ≤ q % 9 ∧ q % 9 < 9 := by omega
 have hw : IntKind.i64.wrap (1 + q % 9) = (((1 + q % 9).toNat : Nat) : Int) := by rw [zW (by omega)]; omega
 refine gen_law js ms n m cs lc c bx k (jaOf l) (maOf l) (nJ l 0) (nM l 0) (cdOf l m' (1 + q % 9).toNat) (1 + q % 9).toNat (beOf l o) (nJ l 0) _ _ _ q (q % 9) (by omega) (by omega) h0 (snd_robF hl) ?_ ?_ (snd_boxF ho)
 ·exact qQY (zG Tryz.func15 (by kernel_rfl) (by kernel_rfl)) rfl rfl (fun w => mRound _ _ ⟨by omega, by omega⟩ w)
 ·rw [hw]
  exact snd_consF (by omega) hm
end Go.Proofs.YtmbnpjpggccefaaGreat.Nh

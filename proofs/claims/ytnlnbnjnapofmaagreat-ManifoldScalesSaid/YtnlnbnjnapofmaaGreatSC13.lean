/- Part 13 of the texts behind the last one: rules and contracts. No condition. -/
import Derived.Test.YtnlnbnjnapofmaaGreatSC12
namespace Go.Proofs.YtnlnbnjnapofmaaGreat.Ov
open Go.Rx Rt Go.Sx Go.RowKit
open Od
noncomputable def gEq (a b : PV) : Bool := @decide (a = b) (Classical.propDecidable _)
theorem gEq_self (a : PV) : gEq a a = true := @decide_eq_true _ (Classical.propDecidable _) rfl
theorem gEq_eq {a b : PV} (h : gEq a b = true) : a = b := @of_decide_eq_true _ (Classical.propDecidable _) h
noncomputable def o_chk (R : PV) : List PV → Option (Bool × Ret) := fun ps => match ps with
  | [rb] => some (gEq rb R, .v (.n .i64 0))
  | _ => none
noncomputable def o_ins (R B : PV) : List PV → Option (Bool × Ret) := fun ps => match ps with
  | [rb, bx] => some (gEq rb R && gEq bx B, .v (.b true))
  | _ => none
noncomputable def o_lnk (R B K : PV) : List PV → Option (Bool × Ret) := fun ps => match ps with
  | [rb, bx] => some (gEq rb R && gEq bx B, .v K)
  | _ => none
noncomputable def o_con (R : PV) (g : Int → Int → Int → Int → Int → Int → Int → Int → Int → Int → Bool) : List PV → Option (Bool × Ret) := fun ps => match ps with
  | [rb, .l [[.n .i64 a0, .n .i64 a1, .n .i64 a2, .n .i64 a3, .n .i64 a4, .n .i64 a5, .n .i64 a6, .n .i64 a7, .n .i64 a8, .n .i64 a9]]] => some (gEq rb R, .v (.b (g a0 a1 a2 a3 a4 a5 a6 a7 a8 a9)))
  | _ => none
theorem ok_chk {R : PV} (h : SndA1 Tryz.prog 67 [R] (.v (.n .i64 0))) : OneOk Tryz.prog 67 (o_chk R) := by
  intro ps r hh
  unfold o_chk at hh
  split at hh
  · simp only [Option.some.injEq, Prod.mk.injEq] at hh
    obtain ⟨hg, rfl⟩ := hh
    obtain rfl := gEq_eq hg
    exact h
  · cases hh
theorem ok_ins {R B : PV} (h : SndA1 Tryz.prog 41 [R, B] (.v (.b true))) : OneOk Tryz.prog 41 (o_ins R B) := by
  intro ps r hh
  unfold o_ins at hh
  split at hh
  · simp only [Option.some.injEq, Prod.mk.injEq, Bool.and_eq_true] at hh
    obtain ⟨⟨hg, hb⟩, rfl⟩ := hh
    obtain rfl := gEq_eq hg
    obtain rfl := gEq_eq hb
    exact h
  · cases hh
theorem ok_lnk {R B K : PV} (h : SndA1 Tryz.prog 73 [R, B] (.v K)) : OneOk Tryz.prog 73 (o_lnk R B K) := by
  intro ps r hh
  unfold o_lnk at hh
  split at hh
  · simp only [Option.some.injEq, Prod.mk.injEq, Bool.and_eq_true] at hh
    obtain ⟨⟨hg, hb⟩, rfl⟩ := hh
    obtain rfl := gEq_eq hg
    obtain rfl := gEq_eq hb
    exact h
  · cases hh
theorem ok_con {R : PV} {g : Int → Int → Int → Int → Int → Int → Int → Int → Int → Int → Bool} (h : ∀ a0 a1 a2 a3 a4 a5 a6 a7 a8 a9 : Int, SndA1 Tryz.prog 40 [R, .l [[.n .i64 a0, .n .i64 a1, .n .i64 a2, .n .i64 a3, .n .i64 a4, .n .i64 a5, .n .i64 a6, .n .i64 a7, .n .i64 a8, .n .i64 a9]]] (.v (.b (g a0 a1 a2 a3 a4 a5 a6 a7 a8 a9)))) : OneOk Tryz.prog 40 (o_con R g) := by
  intro ps r hh
  unfold o_con at hh
  split at hh
  · simp only [Option.some.injEq, Prod.mk.injEq] at hh
    obtain ⟨hg, rfl⟩ := hh
    obtain rfl := gEq_eq hg
    exact h _ _ _ _ _ _ _ _ _ _
  · cases hh
noncomputable def o_con0 (R C : PV) : List PV → Option (Bool × Ret) := fun ps => match ps with
  | [rb, l] => some (gEq rb R && gEq l C, .v (.b false))
  | _ => none
theorem ok_con0 {R C : PV} (h : SndA1 Tryz.prog 40 [R, C] (.v (.b false))) : OneOk Tryz.prog 40 (o_con0 R C) := by
  intro ps r hh
  unfold o_con0 at hh
  split at hh
  · simp only [Option.some.injEq, Prod.mk.injEq, Bool.and_eq_true] at hh
    obtain ⟨⟨hg, hb⟩, rfl⟩ := hh
    obtain rfl := gEq_eq hg
    obtain rfl := gEq_eq hb
    exact h
  · cases hh
noncomputable def dotV (nx ny nz : Int) (v : V3) : Int × Int := dot nx ny nz v.x.lo v.x.hi v.y.lo v.y.hi v.z.lo v.z.hi
def vecP (kind : Int) (p : Po) (px py pz : Int) : V3 := bif decide (kind = 1) then M3.apply p.r (V3.of ⟨px, py, pz⟩) else Po.app p (V3.of ⟨px, py, pz⟩)
noncomputable def valR (ok : Bool) (v : V3) (nx ny nz : Int) : PV := bif ok then .t [.a [.n .i64 (dotV nx ny nz v).1, .n .i64 (dotV nx ny nz v).2], .b true] else .t [.a [.n .i64 0, .n .i64 0], .b false]
def bxOk (j : J) (b : Iv) : Prop := -2147483648 ≤ b.lo ∧ b.lo ≤ b.hi ∧ b.hi ≤ 2147483648 ∧ -2147483648 ≤ j.lo ∧ j.lo ≤ j.hi ∧ j.hi ≤ 2147483648 ∧ j.lo ≤ b.lo ∧ b.hi ≤ j.hi
def rob1 (j0 : J) (mr : List (List PV)) : PV := .a [.l [jp j0], .l mr]
def box1 (b0 : Iv) : PV := .l [ivC b0]
def lk1 (p0 : Po) : PV := .l [poC p0]
set_option maxRecDepth 100000 in
theorem tr_ins1 (j0 : J) (mr : List (List PV)) (b0 : Iv) : runK T (OrL.k [(67, o_chk (rob1 j0 mr))]) 60 41 [(rob1 j0 mr), (box1 b0)] =
  bif (gEq (rob1 j0 mr) (rob1 j0 mr)) then (bif (decide ((-2147483648) ≤ b0.lo)) then (bif (decide (b0.lo ≤ b0.hi)) then (bif (decide (b0.hi ≤ 2147483648)) then (bif (decide ((-2147483648) ≤ j0.lo)) then (bif (decide (j0.lo ≤ j0.hi)) then (bif (decide (j0.hi ≤ 2147483648)) then (bif (decide (j0.lo ≤ b0.lo)) then (bif (decide (b0.hi ≤ j0.hi)) then some (.v (.b true), [])
                  else some (.v (.b false), []))
                else some (.v (.b false), []))
              else some (.v (.b false), []))
            else some (.v (.b false), []))
          else some (.v (.b false), []))
        else some (.v (.b false), []))
      else some (.v (.b false), []))
    else some (.v (.b false), []))
  else none := by kernel_rfl
theorem sp_ins1 {j0 : J} {mr : List (List PV)} {b0 : Iv} (h0 : bxOk j0 b0) : runK T (OrL.k [(67, o_chk (rob1 j0 mr))]) 60 41 [(rob1 j0 mr), (box1 b0)] = some (.v (.b true), []) := by
  obtain ⟨q00, q01, q02, q03, q04, q05, q06, q07⟩ := h0
  rw [tr_ins1, gEq_self, cond_true, show (decide ((-2147483648) ≤ b0.lo)) = true from decide_eq_true (by omega), cond_true, show (decide (b0.lo ≤ b0.hi)) = true from decide_eq_true (by omega), cond_true, show (decide (b0.hi ≤ 2147483648)) = true from decide_eq_true (by omega), cond_true, show (decide ((-2147483648) ≤ j0.lo)) = true from decide_eq_true (by omega), cond_true, show (decide (j0.lo ≤ j0.hi)) = true from decide_eq_true (by omega), cond_true, show (decide (j0.hi ≤ 2147483648)) = true from decide_eq_true (by omega), cond_true, show (decide (j0.lo ≤ b0.lo)) = true from decide_eq_true (by omega), cond_true, show (decide (b0.hi ≤ j0.hi)) = true from decide_eq_true (by omega), cond_true]
theorem snd_ins1 {j0 : J} {mr : List (List PV)} {b0 : Iv} (h0 : bxOk j0 b0) (hc : SndA1 Tryz.prog 67 [(rob1 j0 mr)] (.v (.n .i64 0))) : SndA1 Tryz.prog 41 [(rob1 j0 mr), (box1 b0)] (.v (.b true)) := runK_sound tabOk mixed (OrL.ok (l := [(67, o_chk (rob1 j0 mr))]) ⟨ok_chk hc, trivial⟩) (sp_ins1 h0)
def F_b : Bool → Option (Ret × Mem) := fun v => some (.v (.b v), [])
set_option maxRecDepth 100000 in
theorem tr_con1 (j0 : J) (mr : List (List PV)) (kind link px py pz nx ny nz lo hi : Int) : runK T (OrL.k [(67, o_chk (rob1 j0 mr))]) 60 40 [(rob1 j0 mr), .l [[.n .i64 kind, .n .i64 link, .n .i64 px, .n .i64 py, .n .i64 pz, .n .i64 nx, .n .i64 ny, .n .i64 nz, .n .i64 lo, .n .i64 hi]]] =
  bif (gEq (rob1 j0 mr) (rob1 j0 mr)) then (bif (!decide (kind = 0)) then (bif (!decide (kind = 1)) then some (.v (.b false), [])
      else bif (decide (link < 0)) then some (.v (.b false), [])
      else bif (decide (1 ≤ link)) then some (.v (.b false), [])
      else bif (decide (px < (-4194304))) then some (.v (.b false), [])
      else bif (decide (4194304 < px)) then some (.v (.b false), [])
      else bif (decide (py < (-4194304))) then some (.v (.b false), [])
      else bif (decide (4194304 < py)) then some (.v (.b false), [])
      else bif (decide (pz < (-4194304))) then some (.v (.b false), [])
      else bif (decide (4194304 < pz)) then some (.v (.b false), [])
      else bif (decide (nx < (-16384))) then some (.v (.b false), [])
      else bif (decide (16384 < nx)) then some (.v (.b false), [])
      else bif (decide (ny < (-16384))) then some (.v (.b false), [])
      else bif (decide (16384 < ny)) then some (.v (.b false), [])
      else bif (decide (nz < (-16384))) then some (.v (.b false), [])
      else bif (decide (16384 < nz)) then some (.v (.b false), [])
      else bif (!((decide (nx = 0)) && ((decide (ny = 0)) && ((decide (nz = 0)) && true)))) then (bif (decide (hi < lo)) then some (.v (.b false), [])
        else bif (decide (lo < (-70368744177664))) then some (.v (.b false), [])
        else bif (decide (70368744177664 < hi)) then some (.v (.b false), [])
        else some (.v (.b true), []))
      else some (.v (.b false), []))
    else bif (decide (link < 0)) then some (.v (.b false), [])
    else bif (decide (1 ≤ link)) then some (.v (.b false), [])
    else bif (decide (px < (-4194304))) then some (.v (.b false), [])
    else bif (decide (4194304 < px)) then some (.v (.b false), [])
    else bif (decide (py < (-4194304))) then some (.v (.b false), [])
    else bif (decide (4194304 < py)) then some (.v (.b false), [])
    else bif (decide (pz < (-4194304))) then some (.v (.b false), [])
    else bif (decide (4194304 < pz)) then some (.v (.b false), [])
    else bif (decide (nx < (-16384))) then some (.v (.b false), [])
    else bif (decide (16384 < nx)) then some (.v (.b false), [])
    else bif (decide (ny < (-16384))) then some (.v (.b false), [])
    else bif (decide (16384 < ny)) then some (.v (.b false), [])
    else bif (decide (nz < (-16384))) then some (.v (.b false), [])
    else bif (decide (16384 < nz)) then some (.v (.b false), [])
    else bif (!((decide (nx = 0)) && ((decide (ny = 0)) && ((decide (nz = 0)) && true)))) then (bif (decide (hi < lo)) then some (.v (.b false), [])
      else bif (decide (lo < (-70368744177664))) then some (.v (.b false), [])
      else bif (decide (70368744177664 < hi)) then some (.v (.b false), [])
      else some (.v (.b true), []))
    else some (.v (.b false), []))
  else none := by kernel_rfl
def chk1 (kind link px py pz nx ny nz lo hi : Int) : Bool := (bif (!decide (kind = 0)) then (bif (!decide (kind = 1)) then false else (bif (decide (link < 0)) then false else (bif (decide (1 ≤ link)) then false else (bif (decide (px < (-4194304))) then false else (bif (decide (4194304 < px)) then false else (bif (decide (py < (-4194304))) then false else (bif (decide (4194304 < py)) then false else (bif (decide (pz < (-4194304))) then false else (bif (decide (4194304 < pz)) then false else (bif (decide (nx < (-16384))) then false else (bif (decide (16384 < nx)) then false else (bif (decide (ny < (-16384))) then false else (bif (decide (16384 < ny)) then false else (bif (decide (nz < (-16384))) then false else (bif (decide (16384 < nz)) then false else (bif (!((decide (nx = 0)) && ((decide (ny = 0)) && ((decide (nz = 0)) && true)))) then (bif (decide (hi < lo)) then false else (bif (decide (lo < (-70368744177664))) then false else (bif (decide (70368744177664 < hi)) then false else true))) else false)))))))))))))))) else (bif (decide (link < 0)) then false else (bif (decide (1 ≤ link)) then false else (bif (decide (px < (-4194304))) then false else (bif (decide (4194304 < px)) then false else (bif (decide (py < (-4194304))) then false else (bif (decide (4194304 < py)) then false else (bif (decide (pz < (-4194304))) then false else (bif (decide (4194304 < pz)) then false else (bif (decide (nx < (-16384))) then false else (bif (decide (16384 < nx)) then false else (bif (decide (ny < (-16384))) then false else (bif (decide (16384 < ny)) then false else (bif (decide (nz < (-16384))) then false else (bif (decide (16384 < nz)) then false else (bif (!((decide (nx = 0)) && ((decide (ny = 0)) && ((decide (nz = 0)) && true)))) then (bif (decide (hi < lo)) then false else (bif (decide (lo < (-70368744177664))) then false else (bif (decide (70368744177664 < hi)) then false else true))) else false))))))))))))))))
theorem snd_con1 {j0 : J} {mr : List (List PV)} (hc : SndA1 Tryz.prog 67 [(rob1 j0 mr)] (.v (.n .i64 0))) (kind link px py pz nx ny nz lo hi : Int) : SndA1 Tryz.prog 40 [(rob1 j0 mr), .l [[.n .i64 kind, .n .i64 link, .n .i64 px, .n .i64 py, .n .i64 pz, .n .i64 nx, .n .i64 ny, .n .i64 nz, .n .i64 lo, .n .i64 hi]]] (.v (.b (chk1 kind link px py pz nx ny nz lo hi))) := by
  refine runK_sound (N := 60) tabOk mixed (OrL.ok (l := [(67, o_chk (rob1 j0 mr))]) ⟨ok_chk hc, trivial⟩) ?_
  rw [tr_con1, gEq_self, cond_true]
  exact ((bif_val (F := F_b) (bif_val (F := F_b) rfl (bif_val (F := F_b) rfl (bif_val (F := F_b) rfl (bif_val (F := F_b) rfl (bif_val (F := F_b) rfl (bif_val (F := F_b) rfl (bif_val (F := F_b) rfl (bif_val (F := F_b) rfl (bif_val (F := F_b) rfl (bif_val (F := F_b) rfl (bif_val (F := F_b) rfl (bif_val (F := F_b) rfl (bif_val (F := F_b) rfl (bif_val (F := F_b) rfl (bif_val (F := F_b) rfl (bif_val (F := F_b) (bif_val (F := F_b) rfl (bif_val (F := F_b) rfl (bif_val (F := F_b) rfl rfl))) rfl)))))))))))))))) (bif_val (F := F_b) rfl (bif_val (F := F_b) rfl (bif_val (F := F_b) rfl (bif_val (F := F_b) rfl (bif_val (F := F_b) rfl (bif_val (F := F_b) rfl (bif_val (F := F_b) rfl (bif_val (F := F_b) rfl (bif_val (F := F_b) rfl (bif_val (F := F_b) rfl (bif_val (F := F_b) rfl (bif_val (F := F_b) rfl (bif_val (F := F_b) rfl (bif_val (F := F_b) rfl (bif_val (F := F_b) (bif_val (F := F_b) rfl (bif_val (F := F_b) rfl (bif_val (F := F_b) rfl rfl))) rfl)))))))))))))))) : _ = F_b (chk1 kind link px py pz nx ny nz lo hi))
set_option maxRecDepth 100000 in
theorem tr_val1_0 (j0 : J) (mr : List (List PV)) (b0 : Iv) (p0 : Po) (kind px py pz nx ny nz lo hi : Int) : runK T (OrL.k ((40, o_con (rob1 j0 mr) chk1) :: (41, o_ins (rob1 j0 mr) (box1 b0)) :: (73, o_lnk (rob1 j0 mr) (box1 b0) (lk1 p0)) :: Od.L6)) 60 13 [(rob1 j0 mr), .a [.n .i64 kind, .n .i64 0, .n .i64 px, .n .i64 py, .n .i64 pz, .n .i64 nx, .n .i64 ny, .n .i64 nz, .n .i64 lo, .n .i64 hi], (box1 b0)] =
  bif gEq (rob1 j0 mr) (rob1 j0 mr) then (bif chk1 kind 0 px py pz nx ny nz lo hi then (bif (gEq (rob1 j0 mr) (rob1 j0 mr) && gEq (box1 b0) (box1 b0)) then (bif (gEq (rob1 j0 mr) (rob1 j0 mr) && gEq (box1 b0) (box1 b0)) then (bif decide (kind = 1) then some (.v (.t [.a [.n .i64 (dotV nx ny nz (M3.apply p0.r (V3.of ⟨px, py, pz⟩))).1, .n .i64 (dotV nx ny nz (M3.apply p0.r (V3.of ⟨px, py, pz⟩))).2], .b true]), []) else some (.v (.t [.a [.n .i64 (dotV nx ny nz (Po.app p0 (V3.of ⟨px, py, pz⟩))).1, .n .i64 (dotV nx ny nz (Po.app p0 (V3.of ⟨px, py, pz⟩))).2], .b true]), [])) else none) else none) else some (.v (.t [.a [.n .i64 0, .n .i64 0], .b false]), [])) else none := by kernel_rfl
theorem snd_val1_0 {j0 : J} {mr : List (List PV)} {b0 : Iv} {p0 : Po} (hc : SndA1 Tryz.prog 67 [(rob1 j0 mr)] (.v (.n .i64 0))) (hins : SndA1 Tryz.prog 41 [(rob1 j0 mr), (box1 b0)] (.v (.b true))) (hl : SndA1 Tryz.prog 73 [(rob1 j0 mr), (box1 b0)] (.v (lk1 p0))) (kind px py pz nx ny nz lo hi : Int) : SndA1 Tryz.prog 13 [(rob1 j0 mr), .a [.n .i64 kind, .n .i64 0, .n .i64 px, .n .i64 py, .n .i64 pz, .n .i64 nx, .n .i64 ny, .n .i64 nz, .n .i64 lo, .n .i64 hi], (box1 b0)] (.v (valR (chk1 kind 0 px py pz nx ny nz lo hi) (vecP kind p0 px py pz) nx ny nz)) := by
  refine runK_sound (N := 60) tabOk mixed (OrL.ok (l := ((40, o_con (rob1 j0 mr) chk1) :: (41, o_ins (rob1 j0 mr) (box1 b0)) :: (73, o_lnk (rob1 j0 mr) (box1 b0) (lk1 p0)) :: Od.L6)) ⟨ok_con (snd_con1 hc), ok_ins hins, ok_lnk hl, Od.L6_ok⟩) ?_
  rw [tr_val1_0, gEq_self, gEq_self, cond_true, Bool.and_true, cond_true]
  unfold valR vecP
  cases chk1 kind 0 px py pz nx ny nz lo hi with
  | false => rfl
  | true => cases decide (kind = 1) <;> rfl
set_option maxRecDepth 100000 in
theorem tr_val1_x (j0 : J) (mr : List (List PV)) (b0 : Iv) (kind link px py pz nx ny nz lo hi : Int) : runK T (OrL.k ((40, o_con0 (rob1 j0 mr) (.l [[.n .i64 kind, .n .i64 link, .n .i64 px, .n .i64 py, .n .i64 pz, .n .i64 nx, .n .i64 ny, .n .i64 nz, .n .i64 lo, .n .i64 hi]])) :: Od.L6)) 60 13 [(rob1 j0 mr), .a [.n .i64 kind, .n .i64 link, .n .i64 px, .n .i64 py, .n .i64 pz, .n .i64 nx, .n .i64 ny, .n .i64 nz, .n .i64 lo, .n .i64 hi], (box1 b0)] =
  bif (gEq (rob1 j0 mr) (rob1 j0 mr) && gEq (.l [[.n .i64 kind, .n .i64 link, .n .i64 px, .n .i64 py, .n .i64 pz, .n .i64 nx, .n .i64 ny, .n .i64 nz, .n .i64 lo, .n .i64 hi]]) (.l [[.n .i64 kind, .n .i64 link, .n .i64 px, .n .i64 py, .n .i64 pz, .n .i64 nx, .n .i64 ny, .n .i64 nz, .n .i64 lo, .n .i64 hi]])) then some (.v (.t [.a [.n .i64 0, .n .i64 0], .b false]), []) else none := by kernel_rfl
theorem snd_val1_x {j0 : J} {mr : List (List PV)} {b0 : Iv} (hc : SndA1 Tryz.prog 67 [(rob1 j0 mr)] (.v (.n .i64 0))) (v : V3) (kind link px py pz nx ny nz lo hi : Int) (h : chk1 kind link px py pz nx ny nz lo hi = false) : SndA1 Tryz.prog 13 [(rob1 j0 mr), .a [.n .i64 kind, .n .i64 link, .n .i64 px, .n .i64 py, .n .i64 pz, .n .i64 nx, .n .i64 ny, .n .i64 nz, .n .i64 lo, .n .i64 hi], (box1 b0)] (.v (valR (chk1 kind link px py pz nx ny nz lo hi) v nx ny nz)) := by
  have hq := snd_con1 hc kind link px py pz nx ny nz lo hi
  rw [h] at hq
  refine runK_sound (N := 60) tabOk mixed (OrL.ok (l := ((40, o_con0 (rob1 j0 mr) (.l [[.n .i64 kind, .n .i64 link, .n .i64 px, .n .i64 py, .n .i64 pz, .n .i64 nx, .n .i64 ny, .n .i64 nz, .n .i64 lo, .n .i64 hi]])) :: Od.L6)) ⟨ok_con0 hq, Od.L6_ok⟩) ?_
  rw [tr_val1_x, gEq_self, gEq_self, h]
  rfl
def rob2 (j0 j1 : J) (mr : List (List PV)) : PV := .a [.l [jp j0, jp j1], .l mr]
def box2 (b0 b1 : Iv) : PV := .l [ivC b0, ivC b1]
def lk2 (p0 p1 : Po) : PV := .l [poC p0, poC p1]
set_option maxRecDepth 100000 in
theorem tr_ins2 (j0 j1 : J) (mr : List (List PV)) (b0 b1 : Iv) : runK T (OrL.k [(67, o_chk (rob2 j0 j1 mr))]) 60 41 [(rob2 j0 j1 mr), (box2 b0 b1)] =
  bif (gEq (rob2 j0 j1 mr) (rob2 j0 j1 mr)) then (bif (decide ((-2147483648) ≤ b0.lo)) then (bif (decide (b0.lo ≤ b0.hi)) then (bif (decide (b0.hi ≤ 2147483648)) then (bif (decide ((-2147483648) ≤ j0.lo)) then (bif (decide (j0.lo ≤ j0.hi)) then (bif (decide (j0.hi ≤ 2147483648)) then (bif (decide (j0.lo ≤ b0.lo)) then (bif (decide (b0.hi ≤ j0.hi)) then (bif (decide ((-2147483648) ≤ b1.lo)) then (bif (decide (b1.lo ≤ b1.hi)) then (bif (decide (b1.hi ≤ 2147483648)) then (bif (decide ((-2147483648) ≤ j1.lo)) then (bif (decide (j1.lo ≤ j1.hi)) then (bif (decide (j1.hi ≤ 2147483648)) then (bif (decide (j1.lo ≤ b1.lo)) then (bif (decide (b1.hi ≤ j1.hi)) then some (.v (.b true), [])
                                  else some (.v (.b false), []))
                                else some (.v (.b false), []))
                              else some (.v (.b false), []))
                            else some (.v (.b false), []))
                          else some (.v (.b false), []))
                        else some (.v (.b false), []))
                      else some (.v (.b false), []))
                    else some (.v (.b false), []))
                  else some (.v (.b false), []))
                else some (.v (.b false), []))
              else some (.v (.b false), []))
            else some (.v (.b false), []))
          else some (.v (.b false), []))
        else some (.v (.b false), []))
      else some (.v (.b false), []))
    else some (.v (.b false), []))
  else none := by kernel_rfl
theorem sp_ins2 {j0 j1 : J} {mr : List (List PV)} {b0 b1 : Iv} (h0 : bxOk j0 b0) (h1 : bxOk j1 b1) : runK T (OrL.k [(67, o_chk (rob2 j0 j1 mr))]) 60 41 [(rob2 j0 j1 mr), (box2 b0 b1)] = some (.v (.b true), []) := by
  obtain ⟨q00, q01, q02, q03, q04, q05, q06, q07⟩ := h0
  obtain ⟨q10, q11, q12, q13, q14, q15, q16, q17⟩ := h1
  rw [tr_ins2, gEq_self, cond_true, show (decide ((-2147483648) ≤ b0.lo)) = true from decide_eq_true (by omega), cond_true, show (decide (b0.lo ≤ b0.hi)) = true from decide_eq_true (by omega), cond_true, show (decide (b0.hi ≤ 2147483648)) = true from decide_eq_true (by omega), cond_true, show (decide ((-2147483648) ≤ j0.lo)) = true from decide_eq_true (by omega), cond_true, show (decide (j0.lo ≤ j0.hi)) = true from decide_eq_true (by omega), cond_true, show (decide (j0.hi ≤ 2147483648)) = true from decide_eq_true (by omega), cond_true, show (decide (j0.lo ≤ b0.lo)) = true from decide_eq_true (by omega), cond_true, show (decide (b0.hi ≤ j0.hi)) = true from decide_eq_true (by omega), cond_true, show (decide ((-2147483648) ≤ b1.lo)) = true from decide_eq_true (by omega), cond_true, show (decide (b1.lo ≤ b1.hi)) = true from decide_eq_true (by omega), cond_true, show (decide (b1.hi ≤ 2147483648)) = true from decide_eq_true (by omega), cond_true, show (decide ((-2147483648) ≤ j1.lo)) = true from decide_eq_true (by omega), cond_true, show (decide (j1.lo ≤ j1.hi)) = true from decide_eq_true (by omega), cond_true, show (decide (j1.hi ≤ 2147483648)) = true from decide_eq_true (by omega), cond_true, show (decide (j1.lo ≤ b1.lo)) = true from decide_eq_true (by omega), cond_true, show (decide (b1.hi ≤ j1.hi)) = true from decide_eq_true (by omega), cond_true]
theorem snd_ins2 {j0 j1 : J} {mr : List (List PV)} {b0 b1 : Iv} (h0 : bxOk j0 b0) (h1 : bxOk j1 b1) (hc : SndA1 Tryz.prog 67 [(rob2 j0 j1 mr)] (.v (.n .i64 0))) : SndA1 Tryz.prog 41 [(rob2 j0 j1 mr), (box2 b0 b1)] (.v (.b true)) := runK_sound tabOk mixed (OrL.ok (l := [(67, o_chk (rob2 j0 j1 mr))]) ⟨ok_chk hc, trivial⟩) (sp_ins2 h0 h1)
set_option maxRecDepth 100000 in
theorem tr_con2 (j0 j1 : J) (mr : List (List PV)) (kind link px py pz nx ny nz lo hi : Int) : runK T (OrL.k [(67, o_chk (rob2 j0 j1 mr))]) 60 40 [(rob2 j0 j1 mr), .l [[.n .i64 kind, .n .i64 link, .n .i64 px, .n .i64 py, .n .i64 pz, .n .i64 nx, .n .i64 ny, .n .i64 nz, .n .i64 lo, .n .i64 hi]]] =
  bif (gEq (rob2 j0 j1 mr) (rob2 j0 j1 mr)) then (bif (!decide (kind = 0)) then (bif (!decide (kind = 1)) then some (.v (.b false), [])
      else bif (decide (link < 0)) then some (.v (.b false), [])
      else bif (decide (2 ≤ link)) then some (.v (.b false), [])
      else bif (decide (px < (-4194304))) then some (.v (.b false), [])
      else bif (decide (4194304 < px)) then some (.v (.b false), [])
      else bif (decide (py < (-4194304))) then some (.v (.b false), [])
      else bif (decide (4194304 < py)) then some (.v (.b false), [])
      else bif (decide (pz < (-4194304))) then some (.v (.b false), [])
      else bif (decide (4194304 < pz)) then some (.v (.b false), [])
      else bif (decide (nx < (-16384))) then some (.v (.b false), [])
      else bif (decide (16384 < nx)) then some (.v (.b false), [])
      else bif (decide (ny < (-16384))) then some (.v (.b false), [])
      else bif (decide (16384 < ny)) then some (.v (.b false), [])
      else bif (decide (nz < (-16384))) then some (.v (.b false), [])
      else bif (decide (16384 < nz)) then some (.v (.b false), [])
      else bif (!((decide (nx = 0)) && ((decide (ny = 0)) && ((decide (nz = 0)) && true)))) then (bif (decide (hi < lo)) then some (.v (.b false), [])
        else bif (decide (lo < (-70368744177664))) then some (.v (.b false), [])
        else bif (decide (70368744177664 < hi)) then some (.v (.b false), [])
        else some (.v (.b true), []))
      else some (.v (.b false), []))
    else bif (decide (link < 0)) then some (.v (.b false), [])
    else bif (decide (2 ≤ link)) then some (.v (.b false), [])
    else bif (decide (px < (-4194304))) then some (.v (.b false), [])
    else bif (decide (4194304 < px)) then some (.v (.b false), [])
    else bif (decide (py < (-4194304))) then some (.v (.b false), [])
    else bif (decide (4194304 < py)) then some (.v (.b false), [])
    else bif (decide (pz < (-4194304))) then some (.v (.b false), [])
    else bif (decide (4194304 < pz)) then some (.v (.b false), [])
    else bif (decide (nx < (-16384))) then some (.v (.b false), [])
    else bif (decide (16384 < nx)) then some (.v (.b false), [])
    else bif (decide (ny < (-16384))) then some (.v (.b false), [])
    else bif (decide (16384 < ny)) then some (.v (.b false), [])
    else bif (decide (nz < (-16384))) then some (.v (.b false), [])
    else bif (decide (16384 < nz)) then some (.v (.b false), [])
    else bif (!((decide (nx = 0)) && ((decide (ny = 0)) && ((decide (nz = 0)) && true)))) then (bif (decide (hi < lo)) then some (.v (.b false), [])
      else bif (decide (lo < (-70368744177664))) then some (.v (.b false), [])
      else bif (decide (70368744177664 < hi)) then some (.v (.b false), [])
      else some (.v (.b true), []))
    else some (.v (.b false), []))
  else none := by kernel_rfl
def chk2 (kind link px py pz nx ny nz lo hi : Int) : Bool := (bif (!decide (kind = 0)) then (bif (!decide (kind = 1)) then false else (bif (decide (link < 0)) then false else (bif (decide (2 ≤ link)) then false else (bif (decide (px < (-4194304))) then false else (bif (decide (4194304 < px)) then false else (bif (decide (py < (-4194304))) then false else (bif (decide (4194304 < py)) then false else (bif (decide (pz < (-4194304))) then false else (bif (decide (4194304 < pz)) then false else (bif (decide (nx < (-16384))) then false else (bif (decide (16384 < nx)) then false else (bif (decide (ny < (-16384))) then false else (bif (decide (16384 < ny)) then false else (bif (decide (nz < (-16384))) then false else (bif (decide (16384 < nz)) then false else (bif (!((decide (nx = 0)) && ((decide (ny = 0)) && ((decide (nz = 0)) && true)))) then (bif (decide (hi < lo)) then false else (bif (decide (lo < (-70368744177664))) then false else (bif (decide (70368744177664 < hi)) then false else true))) else false)))))))))))))))) else (bif (decide (link < 0)) then false else (bif (decide (2 ≤ link)) then false else (bif (decide (px < (-4194304))) then false else (bif (decide (4194304 < px)) then false else (bif (decide (py < (-4194304))) then false else (bif (decide (4194304 < py)) then false else (bif (decide (pz < (-4194304))) then false else (bif (decide (4194304 < pz)) then false else (bif (decide (nx < (-16384))) then false else (bif (decide (16384 < nx)) then false else (bif (decide (ny < (-16384))) then false else (bif (decide (16384 < ny)) then false else (bif (decide (nz < (-16384))) then false else (bif (decide (16384 < nz)) then false else (bif (!((decide (nx = 0)) && ((decide (ny = 0)) && ((decide (nz = 0)) && true)))) then (bif (decide (hi < lo)) then false else (bif (decide (lo < (-70368744177664))) then false else (bif (decide (70368744177664 < hi)) then false else true))) else false))))))))))))))))
theorem snd_con2 {j0 j1 : J} {mr : List (List PV)} (hc : SndA1 Tryz.prog 67 [(rob2 j0 j1 mr)] (.v (.n .i64 0))) (kind link px py pz nx ny nz lo hi : Int) : SndA1 Tryz.prog 40 [(rob2 j0 j1 mr), .l [[.n .i64 kind, .n .i64 link, .n .i64 px, .n .i64 py, .n .i64 pz, .n .i64 nx, .n .i64 ny, .n .i64 nz, .n .i64 lo, .n .i64 hi]]] (.v (.b (chk2 kind link px py pz nx ny nz lo hi))) := by
  refine runK_sound (N := 60) tabOk mixed (OrL.ok (l := [(67, o_chk (rob2 j0 j1 mr))]) ⟨ok_chk hc, trivial⟩) ?_
  rw [tr_con2, gEq_self, cond_true]
  exact ((bif_val (F := F_b) (bif_val (F := F_b) rfl (bif_val (F := F_b) rfl (bif_val (F := F_b) rfl (bif_val (F := F_b) rfl (bif_val (F := F_b) rfl (bif_val (F := F_b) rfl (bif_val (F := F_b) rfl (bif_val (F := F_b) rfl (bif_val (F := F_b) rfl (bif_val (F := F_b) rfl (bif_val (F := F_b) rfl (bif_val (F := F_b) rfl (bif_val (F := F_b) rfl (bif_val (F := F_b) rfl (bif_val (F := F_b) rfl (bif_val (F := F_b) (bif_val (F := F_b) rfl (bif_val (F := F_b) rfl (bif_val (F := F_b) rfl rfl))) rfl)))))))))))))))) (bif_val (F := F_b) rfl (bif_val (F := F_b) rfl (bif_val (F := F_b) rfl (bif_val (F := F_b) rfl (bif_val (F := F_b) rfl (bif_val (F := F_b) rfl (bif_val (F := F_b) rfl (bif_val (F := F_b) rfl (bif_val (F := F_b) rfl (bif_val (F := F_b) rfl (bif_val (F := F_b) rfl (bif_val (F := F_b) rfl (bif_val (F := F_b) rfl (bif_val (F := F_b) rfl (bif_val (F := F_b) (bif_val (F := F_b) rfl (bif_val (F := F_b) rfl (bif_val (F := F_b) rfl rfl))) rfl)))))))))))))))) : _ = F_b (chk2 kind link px py pz nx ny nz lo hi))
set_option maxRecDepth 100000 in
theorem tr_val2_0 (j0 j1 : J) (mr : List (List PV)) (b0 b1 : Iv) (p0 p1 : Po) (kind px py pz nx ny nz lo hi : Int) : runK T (OrL.k ((40, o_con (rob2 j0 j1 mr) chk2) :: (41, o_ins (rob2 j0 j1 mr) (box2 b0 b1)) :: (73, o_lnk (rob2 j0 j1 mr) (box2 b0 b1) (lk2 p0 p1)) :: Od.L6)) 60 13 [(rob2 j0 j1 mr), .a [.n .i64 kind, .n .i64 0, .n .i64 px, .n .i64 py, .n .i64 pz, .n .i64 nx, .n .i64 ny, .n .i64 nz, .n .i64 lo, .n .i64 hi], (box2 b0 b1)] =
  bif gEq (rob2 j0 j1 mr) (rob2 j0 j1 mr) then (bif chk2 kind 0 px py pz nx ny nz lo hi then (bif (gEq (rob2 j0 j1 mr) (rob2 j0 j1 mr) && gEq (box2 b0 b1) (box2 b0 b1)) then (bif (gEq (rob2 j0 j1 mr) (rob2 j0 j1 mr) && gEq (box2 b0 b1) (box2 b0 b1)) then (bif decide (kind = 1) then some (.v (.t [.a [.n .i64 (dotV nx ny nz (M3.apply p0.r (V3.of ⟨px, py, pz⟩))).1, .n .i64 (dotV nx ny nz (M3.apply p0.r (V3.of ⟨px, py, pz⟩))).2], .b true]), []) else some (.v (.t [.a [.n .i64 (dotV nx ny nz (Po.app p0 (V3.of ⟨px, py, pz⟩))).1, .n .i64 (dotV nx ny nz (Po.app p0 (V3.of ⟨px, py, pz⟩))).2], .b true]), [])) else none) else none) else some (.v (.t [.a [.n .i64 0, .n .i64 0], .b false]), [])) else none := by kernel_rfl
theorem snd_val2_0 {j0 j1 : J} {mr : List (List PV)} {b0 b1 : Iv} {p0 p1 : Po} (hc : SndA1 Tryz.prog 67 [(rob2 j0 j1 mr)] (.v (.n .i64 0))) (hins : SndA1 Tryz.prog 41 [(rob2 j0 j1 mr), (box2 b0 b1)] (.v (.b true))) (hl : SndA1 Tryz.prog 73 [(rob2 j0 j1 mr), (box2 b0 b1)] (.v (lk2 p0 p1))) (kind px py pz nx ny nz lo hi : Int) : SndA1 Tryz.prog 13 [(rob2 j0 j1 mr), .a [.n .i64 kind, .n .i64 0, .n .i64 px, .n .i64 py, .n .i64 pz, .n .i64 nx, .n .i64 ny, .n .i64 nz, .n .i64 lo, .n .i64 hi], (box2 b0 b1)] (.v (valR (chk2 kind 0 px py pz nx ny nz lo hi) (vecP kind p0 px py pz) nx ny nz)) := by
  refine runK_sound (N := 60) tabOk mixed (OrL.ok (l := ((40, o_con (rob2 j0 j1 mr) chk2) :: (41, o_ins (rob2 j0 j1 mr) (box2 b0 b1)) :: (73, o_lnk (rob2 j0 j1 mr) (box2 b0 b1) (lk2 p0 p1)) :: Od.L6)) ⟨ok_con (snd_con2 hc), ok_ins hins, ok_lnk hl, Od.L6_ok⟩) ?_
  rw [tr_val2_0, gEq_self, gEq_self, cond_true, Bool.and_true, cond_true]
  unfold valR vecP
  cases chk2 kind 0 px py pz nx ny nz lo hi with
  | false => rfl
  | true => cases decide (kind = 1) <;> rfl
set_option maxRecDepth 100000 in
theorem tr_val2_1 (j0 j1 : J) (mr : List (List PV)) (b0 b1 : Iv) (p0 p1 : Po) (kind px py pz nx ny nz lo hi : Int) : runK T (OrL.k ((40, o_con (rob2 j0 j1 mr) chk2) :: (41, o_ins (rob2 j0 j1 mr) (box2 b0 b1)) :: (73, o_lnk (rob2 j0 j1 mr) (box2 b0 b1) (lk2 p0 p1)) :: Od.L6)) 60 13 [(rob2 j0 j1 mr), .a [.n .i64 kind, .n .i64 1, .n .i64 px, .n .i64 py, .n .i64 pz, .n .i64 nx, .n .i64 ny, .n .i64 nz, .n .i64 lo, .n .i64 hi], (box2 b0 b1)] =
  bif gEq (rob2 j0 j1 mr) (rob2 j0 j1 mr) then (bif chk2 kind 1 px py pz nx ny nz lo hi then (bif (gEq (rob2 j0 j1 mr) (rob2 j0 j1 mr) && gEq (box2 b0 b1) (box2 b0 b1)) then (bif (gEq (rob2 j0 j1 mr) (rob2 j0 j1 mr) && gEq (box2 b0 b1) (box2 b0 b1)) then (bif decide (kind = 1) then some (.v (.t [.a [.n .i64 (dotV nx ny nz (M3.apply p1.r (V3.of ⟨px, py, pz⟩))).1, .n .i64 (dotV nx ny nz (M3.apply p1.r (V3.of ⟨px, py, pz⟩))).2], .b true]), []) else some (.v (.t [.a [.n .i64 (dotV nx ny nz (Po.app p1 (V3.of ⟨px, py, pz⟩))).1, .n .i64 (dotV nx ny nz (Po.app p1 (V3.of ⟨px, py, pz⟩))).2], .b true]), [])) else none) else none) else some (.v (.t [.a [.n .i64 0, .n .i64 0], .b false]), [])) else none := by kernel_rfl
theorem snd_val2_1 {j0 j1 : J} {mr : List (List PV)} {b0 b1 : Iv} {p0 p1 : Po} (hc : SndA1 Tryz.prog 67 [(rob2 j0 j1 mr)] (.v (.n .i64 0))) (hins : SndA1 Tryz.prog 41 [(rob2 j0 j1 mr), (box2 b0 b1)] (.v (.b true))) (hl : SndA1 Tryz.prog 73 [(rob2 j0 j1 mr), (box2 b0 b1)] (.v (lk2 p0 p1))) (kind px py pz nx ny nz lo hi : Int) : SndA1 Tryz.prog 13 [(rob2 j0 j1 mr), .a [.n .i64 kind, .n .i64 1, .n .i64 px, .n .i64 py, .n .i64 pz, .n .i64 nx, .n .i64 ny, .n .i64 nz, .n .i64 lo, .n .i64 hi], (box2 b0 b1)] (.v (valR (chk2 kind 1 px py pz nx ny nz lo hi) (vecP kind p1 px py pz) nx ny nz)) := by
  refine runK_sound (N := 60) tabOk mixed (OrL.ok (l := ((40, o_con (rob2 j0 j1 mr) chk2) :: (41, o_ins (rob2 j0 j1 mr) (box2 b0 b1)) :: (73, o_lnk (rob2 j0 j1 mr) (box2 b0 b1) (lk2 p0 p1)) :: Od.L6)) ⟨ok_con (snd_con2 hc), ok_ins hins, ok_lnk hl, Od.L6_ok⟩) ?_
  rw [tr_val2_1, gEq_self, gEq_self, cond_true, Bool.and_true, cond_true]
  unfold valR vecP
  cases chk2 kind 1 px py pz nx ny nz lo hi with
  | false => rfl
  | true => cases decide (kind = 1) <;> rfl
set_option maxRecDepth 100000 in
theorem tr_val2_x (j0 j1 : J) (mr : List (List PV)) (b0 b1 : Iv) (kind link px py pz nx ny nz lo hi : Int) : runK T (OrL.k ((40, o_con0 (rob2 j0 j1 mr) (.l [[.n .i64 kind, .n .i64 link, .n .i64 px, .n .i64 py, .n .i64 pz, .n .i64 nx, .n .i64 ny, .n .i64 nz, .n .i64 lo, .n .i64 hi]])) :: Od.L6)) 60 13 [(rob2 j0 j1 mr), .a [.n .i64 kind, .n .i64 link, .n .i64 px, .n .i64 py, .n .i64 pz, .n .i64 nx, .n .i64 ny, .n .i64 nz, .n .i64 lo, .n .i64 hi], (box2 b0 b1)] =
  bif (gEq (rob2 j0 j1 mr) (rob2 j0 j1 mr) && gEq (.l [[.n .i64 kind, .n .i64 link, .n .i64 px, .n .i64 py, .n .i64 pz, .n .i64 nx, .n .i64 ny, .n .i64 nz, .n .i64 lo, .n .i64 hi]]) (.l [[.n .i64 kind, .n .i64 link, .n .i64 px, .n .i64 py, .n .i64 pz, .n .i64 nx, .n .i64 ny, .n .i64 nz, .n .i64 lo, .n .i64 hi]])) then some (.v (.t [.a [.n .i64 0, .n .i64 0], .b false]), []) else none := by kernel_rfl
theorem snd_val2_x {j0 j1 : J} {mr : List (List PV)} {b0 b1 : Iv} (hc : SndA1 Tryz.prog 67 [(rob2 j0 j1 mr)] (.v (.n .i64 0))) (v : V3) (kind link px py pz nx ny nz lo hi : Int) (h : chk2 kind link px py pz nx ny nz lo hi = false) : SndA1 Tryz.prog 13 [(rob2 j0 j1 mr), .a [.n .i64 kind, .n .i64 link, .n .i64 px, .n .i64 py, .n .i64 pz, .n .i64 nx, .n .i64 ny, .n .i64 nz, .n .i64 lo, .n .i64 hi], (box2 b0 b1)] (.v (valR (chk2 kind link px py pz nx ny nz lo hi) v nx ny nz)) := by
  have hq := snd_con2 hc kind link px py pz nx ny nz lo hi
  rw [h] at hq
  refine runK_sound (N := 60) tabOk mixed (OrL.ok (l := ((40, o_con0 (rob2 j0 j1 mr) (.l [[.n .i64 kind, .n .i64 link, .n .i64 px, .n .i64 py, .n .i64 pz, .n .i64 nx, .n .i64 ny, .n .i64 nz, .n .i64 lo, .n .i64 hi]])) :: Od.L6)) ⟨ok_con0 hq, Od.L6_ok⟩) ?_
  rw [tr_val2_x, gEq_self, gEq_self, h]
  rfl
def rob3 (j0 j1 j2 : J) (mr : List (List PV)) : PV := .a [.l [jp j0, jp j1, jp j2], .l mr]
def box3 (b0 b1 b2 : Iv) : PV := .l [ivC b0, ivC b1, ivC b2]
def lk3 (p0 p1 p2 : Po) : PV := .l [poC p0, poC p1, poC p2]
set_option maxRecDepth 100000 in
theorem tr_ins3 (j0 j1 j2 : J) (mr : List (List PV)) (b0 b1 b2 : Iv) : runK T (OrL.k [(67, o_chk (rob3 j0 j1 j2 mr))]) 60 41 [(rob3 j0 j1 j2 mr), (box3 b0 b1 b2)] =
  bif (gEq (rob3 j0 j1 j2 mr) (rob3 j0 j1 j2 mr)) then (bif (decide ((-2147483648) ≤ b0.lo)) then (bif (decide (b0.lo ≤ b0.hi)) then (bif (decide (b0.hi ≤ 2147483648)) then (bif (decide ((-2147483648) ≤ j0.lo)) then (bif (decide (j0.lo ≤ j0.hi)) then (bif (decide (j0.hi ≤ 2147483648)) then (bif (decide (j0.lo ≤ b0.lo)) then (bif (decide (b0.hi ≤ j0.hi)) then (bif (decide ((-2147483648) ≤ b1.lo)) then (bif (decide (b1.lo ≤ b1.hi)) then (bif (decide (b1.hi ≤ 2147483648)) then (bif (decide ((-2147483648) ≤ j1.lo)) then (bif (decide (j1.lo ≤ j1.hi)) then (bif (decide (j1.hi ≤ 2147483648)) then (bif (decide (j1.lo ≤ b1.lo)) then (bif (decide (b1.hi ≤ j1.hi)) then (bif (decide ((-2147483648) ≤ b2.lo)) then (bif (decide (b2.lo ≤ b2.hi)) then (bif (decide (b2.hi ≤ 2147483648)) then (bif (decide ((-2147483648) ≤ j2.lo)) then (bif (decide (j2.lo ≤ j2.hi)) then (bif (decide (j2.hi ≤ 2147483648)) then (bif (decide (j2.lo ≤ b2.lo)) then (bif (decide (b2.hi ≤ j2.hi)) then some (.v (.b true), [])
                                                  else some (.v (.b false), []))
                                                else some (.v (.b false), []))
                                              else some (.v (.b false), []))
                                            else some (.v (.b false), []))
                                          else some (.v (.b false), []))
                                        else some (.v (.b false), []))
                                      else some (.v (.b false), []))
                                    else some (.v (.b false), []))
                                  else some (.v (.b false), []))
                                else some (.v (.b false), []))
                              else some (.v (.b false), []))
                            else some (.v (.b false), []))
                          else some (.v (.b false), []))
                        else some (.v (.b false), []))
                      else some (.v (.b false), []))
                    else some (.v (.b false), []))
                  else some (.v (.b false), []))
                else some (.v (.b false), []))
              else some (.v (.b false), []))
            else some (.v (.b false), []))
          else some (.v (.b false), []))
        else some (.v (.b false), []))
      else some (.v (.b false), []))
    else some (.v (.b false), []))
  else none := by kernel_rfl
theorem sp_ins3 {j0 j1 j2 : J} {mr : List (List PV)} {b0 b1 b2 : Iv} (h0 : bxOk j0 b0) (h1 : bxOk j1 b1) (h2 : bxOk j2 b2) : runK T (OrL.k [(67, o_chk (rob3 j0 j1 j2 mr))]) 60 41 [(rob3 j0 j1 j2 mr), (box3 b0 b1 b2)] = some (.v (.b true), []) := by
  obtain ⟨q00, q01, q02, q03, q04, q05, q06, q07⟩ := h0
  obtain ⟨q10, q11, q12, q13, q14, q15, q16, q17⟩ := h1
  obtain ⟨q20, q21, q22, q23, q24, q25, q26, q27⟩ := h2
  rw [tr_ins3, gEq_self, cond_true, show (decide ((-2147483648) ≤ b0.lo)) = true from decide_eq_true (by omega), cond_true, show (decide (b0.lo ≤ b0.hi)) = true from decide_eq_true (by omega), cond_true, show (decide (b0.hi ≤ 2147483648)) = true from decide_eq_true (by omega), cond_true, show (decide ((-2147483648) ≤ j0.lo)) = true from decide_eq_true (by omega), cond_true, show (decide (j0.lo ≤ j0.hi)) = true from decide_eq_true (by omega), cond_true, show (decide (j0.hi ≤ 2147483648)) = true from decide_eq_true (by omega), cond_true, show (decide (j0.lo ≤ b0.lo)) = true from decide_eq_true (by omega), cond_true, show (decide (b0.hi ≤ j0.hi)) = true from decide_eq_true (by omega), cond_true, show (decide ((-2147483648) ≤ b1.lo)) = true from decide_eq_true (by omega), cond_true, show (decide (b1.lo ≤ b1.hi)) = true from decide_eq_true (by omega), cond_true, show (decide (b1.hi ≤ 2147483648)) = true from decide_eq_true (by omega), cond_true, show (decide ((-2147483648) ≤ j1.lo)) = true from decide_eq_true (by omega), cond_true, show (decide (j1.lo ≤ j1.hi)) = true from decide_eq_true (by omega), cond_true, show (decide (j1.hi ≤ 2147483648)) = true from decide_eq_true (by omega), cond_true, show (decide (j1.lo ≤ b1.lo)) = true from decide_eq_true (by omega), cond_true, show (decide (b1.hi ≤ j1.hi)) = true from decide_eq_true (by omega), cond_true, show (decide ((-2147483648) ≤ b2.lo)) = true from decide_eq_true (by omega), cond_true, show (decide (b2.lo ≤ b2.hi)) = true from decide_eq_true (by omega), cond_true, show (decide (b2.hi ≤ 2147483648)) = true from decide_eq_true (by omega), cond_true, show (decide ((-2147483648) ≤ j2.lo)) = true from decide_eq_true (by omega), cond_true, show (decide (j2.lo ≤ j2.hi)) = true from decide_eq_true (by omega), cond_true, show (decide (j2.hi ≤ 2147483648)) = true from decide_eq_true (by omega), cond_true, show (decide (j2.lo ≤ b2.lo)) = true from decide_eq_true (by omega), cond_true, show (decide (b2.hi ≤ j2.hi)) = true from decide_eq_true (by omega), cond_true]
theorem snd_ins3 {j0 j1 j2 : J} {mr : List (List PV)} {b0 b1 b2 : Iv} (h0 : bxOk j0 b0) (h1 : bxOk j1 b1) (h2 : bxOk j2 b2) (hc : SndA1 Tryz.prog 67 [(rob3 j0 j1 j2 mr)] (.v (.n .i64 0))) : SndA1 Tryz.prog 41 [(rob3 j0 j1 j2 mr), (box3 b0 b1 b2)] (.v (.b true)) := runK_sound tabOk mixed (OrL.ok (l := [(67, o_chk (rob3 j0 j1 j2 mr))]) ⟨ok_chk hc, trivial⟩) (sp_ins3 h0 h1 h2)
set_option maxRecDepth 100000 in
theorem tr_con3 (j0 j1 j2 : J) (mr : List (List PV)) (kind link px py pz nx ny nz lo hi : Int) : runK T (OrL.k [(67, o_chk (rob3 j0 j1 j2 mr))]) 60 40 [(rob3 j0 j1 j2 mr), .l [[.n .i64 kind, .n .i64 link, .n .i64 px, .n .i64 py, .n .i64 pz, .n .i64 nx, .n .i64 ny, .n .i64 nz, .n .i64 lo, .n .i64 hi]]] =
  bif (gEq (rob3 j0 j1 j2 mr) (rob3 j0 j1 j2 mr)) then (bif (!decide (kind = 0)) then (bif (!decide (kind = 1)) then some (.v (.b false), [])
      else bif (decide (link < 0)) then some (.v (.b false), [])
      else bif (decide (3 ≤ link)) then some (.v (.b false), [])
      else bif (decide (px < (-4194304))) then some (.v (.b false), [])
      else bif (decide (4194304 < px)) then some (.v (.b false), [])
      else bif (decide (py < (-4194304))) then some (.v (.b false), [])
      else bif (decide (4194304 < py)) then some (.v (.b false), [])
      else bif (decide (pz < (-4194304))) then some (.v (.b false), [])
      else bif (decide (4194304 < pz)) then some (.v (.b false), [])
      else bif (decide (nx < (-16384))) then some (.v (.b false), [])
      else bif (decide (16384 < nx)) then some (.v (.b false), [])
      else bif (decide (ny < (-16384))) then some (.v (.b false), [])
      else bif (decide (16384 < ny)) then some (.v (.b false), [])
      else bif (decide (nz < (-16384))) then some (.v (.b false), [])
      else bif (decide (16384 < nz)) then some (.v (.b false), [])
      else bif (!((decide (nx = 0)) && ((decide (ny = 0)) && ((decide (nz = 0)) && true)))) then (bif (decide (hi < lo)) then some (.v (.b false), [])
        else bif (decide (lo < (-70368744177664))) then some (.v (.b false), [])
        else bif (decide (70368744177664 < hi)) then some (.v (.b false), [])
        else some (.v (.b true), []))
      else some (.v (.b false), []))
    else bif (decide (link < 0)) then some (.v (.b false), [])
    else bif (decide (3 ≤ link)) then some (.v (.b false), [])
    else bif (decide (px < (-4194304))) then some (.v (.b false), [])
    else bif (decide (4194304 < px)) then some (.v (.b false), [])
    else bif (decide (py < (-4194304))) then some (.v (.b false), [])
    else bif (decide (4194304 < py)) then some (.v (.b false), [])
    else bif (decide (pz < (-4194304))) then some (.v (.b false), [])
    else bif (decide (4194304 < pz)) then some (.v (.b false), [])
    else bif (decide (nx < (-16384))) then some (.v (.b false), [])
    else bif (decide (16384 < nx)) then some (.v (.b false), [])
    else bif (decide (ny < (-16384))) then some (.v (.b false), [])
    else bif (decide (16384 < ny)) then some (.v (.b false), [])
    else bif (decide (nz < (-16384))) then some (.v (.b false), [])
    else bif (decide (16384 < nz)) then some (.v (.b false), [])
    else bif (!((decide (nx = 0)) && ((decide (ny = 0)) && ((decide (nz = 0)) && true)))) then (bif (decide (hi < lo)) then some (.v (.b false), [])
      else bif (decide (lo < (-70368744177664))) then some (.v (.b false), [])
      else bif (decide (70368744177664 < hi)) then some (.v (.b false), [])
      else some (.v (.b true), []))
    else some (.v (.b false), []))
  else none := by kernel_rfl
def chk3 (kind link px py pz nx ny nz lo hi : Int) : Bool := (bif (!decide (kind = 0)) then (bif (!decide (kind = 1)) then false else (bif (decide (link < 0)) then false else (bif (decide (3 ≤ link)) then false else (bif (decide (px < (-4194304))) then false else (bif (decide (4194304 < px)) then false else (bif (decide (py < (-4194304))) then false else (bif (decide (4194304 < py)) then false else (bif (decide (pz < (-4194304))) then false else (bif (decide (4194304 < pz)) then false else (bif (decide (nx < (-16384))) then false else (bif (decide (16384 < nx)) then false else (bif (decide (ny < (-16384))) then false else (bif (decide (16384 < ny)) then false else (bif (decide (nz < (-16384))) then false else (bif (decide (16384 < nz)) then false else (bif (!((decide (nx = 0)) && ((decide (ny = 0)) && ((decide (nz = 0)) && true)))) then (bif (decide (hi < lo)) then false else (bif (decide (lo < (-70368744177664))) then false else (bif (decide (70368744177664 < hi)) then false else true))) else false)))))))))))))))) else (bif (decide (link < 0)) then false else (bif (decide (3 ≤ link)) then false else (bif (decide (px < (-4194304))) then false else (bif (decide (4194304 < px)) then false else (bif (decide (py < (-4194304))) then false else (bif (decide (4194304 < py)) then false else (bif (decide (pz < (-4194304))) then false else (bif (decide (4194304 < pz)) then false else (bif (decide (nx < (-16384))) then false else (bif (decide (16384 < nx)) then false else (bif (decide (ny < (-16384))) then false else (bif (decide (16384 < ny)) then false else (bif (decide (nz < (-16384))) then false else (bif (decide (16384 < nz)) then false else (bif (!((decide (nx = 0)) && ((decide (ny = 0)) && ((decide (nz = 0)) && true)))) then (bif (decide (hi < lo)) then false else (bif (decide (lo < (-70368744177664))) then false else (bif (decide (70368744177664 < hi)) then false else true))) else false))))))))))))))))
theorem snd_con3 {j0 j1 j2 : J} {mr : List (List PV)} (hc : SndA1 Tryz.prog 67 [(rob3 j0 j1 j2 mr)] (.v (.n .i64 0))) (kind link px py pz nx ny nz lo hi : Int) : SndA1 Tryz.prog 40 [(rob3 j0 j1 j2 mr), .l [[.n .i64 kind, .n .i64 link, .n .i64 px, .n .i64 py, .n .i64 pz, .n .i64 nx, .n .i64 ny, .n .i64 nz, .n .i64 lo, .n .i64 hi]]] (.v (.b (chk3 kind link px py pz nx ny nz lo hi))) := by
  refine runK_sound (N := 60) tabOk mixed (OrL.ok (l := [(67, o_chk (rob3 j0 j1 j2 mr))]) ⟨ok_chk hc, trivial⟩) ?_
  rw [tr_con3, gEq_self, cond_true]
  exact ((bif_val (F := F_b) (bif_val (F := F_b) rfl (bif_val (F := F_b) rfl (bif_val (F := F_b) rfl (bif_val (F := F_b) rfl (bif_val (F := F_b) rfl (bif_val (F := F_b) rfl (bif_val (F := F_b) rfl (bif_val (F := F_b) rfl (bif_val (F := F_b) rfl (bif_val (F := F_b) rfl (bif_val (F := F_b) rfl (bif_val (F := F_b) rfl (bif_val (F := F_b) rfl (bif_val (F := F_b) rfl (bif_val (F := F_b) rfl (bif_val (F := F_b) (bif_val (F := F_b) rfl (bif_val (F := F_b) rfl (bif_val (F := F_b) rfl rfl))) rfl)))))))))))))))) (bif_val (F := F_b) rfl (bif_val (F := F_b) rfl (bif_val (F := F_b) rfl (bif_val (F := F_b) rfl (bif_val (F := F_b) rfl (bif_val (F := F_b) rfl (bif_val (F := F_b) rfl (bif_val (F := F_b) rfl (bif_val (F := F_b) rfl (bif_val (F := F_b) rfl (bif_val (F := F_b) rfl (bif_val (F := F_b) rfl (bif_val (F := F_b) rfl (bif_val (F := F_b) rfl (bif_val (F := F_b) (bif_val (F := F_b) rfl (bif_val (F := F_b) rfl (bif_val (F := F_b) rfl rfl))) rfl)))))))))))))))) : _ = F_b (chk3 kind link px py pz nx ny nz lo hi))
set_option maxRecDepth 100000 in
theorem tr_val3_0 (j0 j1 j2 : J) (mr : List (List PV)) (b0 b1 b2 : Iv) (p0 p1 p2 : Po) (kind px py pz nx ny nz lo hi : Int) : runK T (OrL.k ((40, o_con (rob3 j0 j1 j2 mr) chk3) :: (41, o_ins (rob3 j0 j1 j2 mr) (box3 b0 b1 b2)) :: (73, o_lnk (rob3 j0 j1 j2 mr) (box3 b0 b1 b2) (lk3 p0 p1 p2)) :: Od.L6)) 60 13 [(rob3 j0 j1 j2 mr), .a [.n .i64 kind, .n .i64 0, .n .i64 px, .n .i64 py, .n .i64 pz, .n .i64 nx, .n .i64 ny, .n .i64 nz, .n .i64 lo, .n .i64 hi], (box3 b0 b1 b2)] =
  bif gEq (rob3 j0 j1 j2 mr) (rob3 j0 j1 j2 mr) then (bif chk3 kind 0 px py pz nx ny nz lo hi then (bif (gEq (rob3 j0 j1 j2 mr) (rob3 j0 j1 j2 mr) && gEq (box3 b0 b1 b2) (box3 b0 b1 b2)) then (bif (gEq (rob3 j0 j1 j2 mr) (rob3 j0 j1 j2 mr) && gEq (box3 b0 b1 b2) (box3 b0 b1 b2)) then (bif decide (kind = 1) then some (.v (.t [.a [.n .i64 (dotV nx ny nz (M3.apply p0.r (V3.of ⟨px, py, pz⟩))).1, .n .i64 (dotV nx ny nz (M3.apply p0.r (V3.of ⟨px, py, pz⟩))).2], .b true]), []) else some (.v (.t [.a [.n .i64 (dotV nx ny nz (Po.app p0 (V3.of ⟨px, py, pz⟩))).1, .n .i64 (dotV nx ny nz (Po.app p0 (V3.of ⟨px, py, pz⟩))).2], .b true]), [])) else none) else none) else some (.v (.t [.a [.n .i64 0, .n .i64 0], .b false]), [])) else none := by kernel_rfl
theorem snd_val3_0 {j0 j1 j2 : J} {mr : List (List PV)} {b0 b1 b2 : Iv} {p0 p1 p2 : Po} (hc : SndA1 Tryz.prog 67 [(rob3 j0 j1 j2 mr)] (.v (.n .i64 0))) (hins : SndA1 Tryz.prog 41 [(rob3 j0 j1 j2 mr), (box3 b0 b1 b2)] (.v (.b true))) (hl : SndA1 Tryz.prog 73 [(rob3 j0 j1 j2 mr), (box3 b0 b1 b2)] (.v (lk3 p0 p1 p2))) (kind px py pz nx ny nz lo hi : Int) : SndA1 Tryz.prog 13 [(rob3 j0 j1 j2 mr), .a [.n .i64 kind, .n .i64 0, .n .i64 px, .n .i64 py, .n .i64 pz, .n .i64 nx, .n .i64 ny, .n .i64 nz, .n .i64 lo, .n .i64 hi], (box3 b0 b1 b2)] (.v (valR (chk3 kind 0 px py pz nx ny nz lo hi) (vecP kind p0 px py pz) nx ny nz)) := by
  refine runK_sound (N := 60) tabOk mixed (OrL.ok (l := ((40, o_con (rob3 j0 j1 j2 mr) chk3) :: (41, o_ins (rob3 j0 j1 j2 mr) (box3 b0 b1 b2)) :: (73, o_lnk (rob3 j0 j1 j2 mr) (box3 b0 b1 b2) (lk3 p0 p1 p2)) :: Od.L6)) ⟨ok_con (snd_con3 hc), ok_ins hins, ok_lnk hl, Od.L6_ok⟩) ?_
  rw [tr_val3_0, gEq_self, gEq_self, cond_true, Bool.and_true, cond_true]
  unfold valR vecP
  cases chk3 kind 0 px py pz nx ny nz lo hi with
  | false => rfl
  | true => cases decide (kind = 1) <;> rfl
set_option maxRecDepth 100000 in
theorem tr_val3_1 (j0 j1 j2 : J) (mr : List (List PV)) (b0 b1 b2 : Iv) (p0 p1 p2 : Po) (kind px py pz nx ny nz lo hi : Int) : runK T (OrL.k ((40, o_con (rob3 j0 j1 j2 mr) chk3) :: (41, o_ins (rob3 j0 j1 j2 mr) (box3 b0 b1 b2)) :: (73, o_lnk (rob3 j0 j1 j2 mr) (box3 b0 b1 b2) (lk3 p0 p1 p2)) :: Od.L6)) 60 13 [(rob3 j0 j1 j2 mr), .a [.n .i64 kind, .n .i64 1, .n .i64 px, .n .i64 py, .n .i64 pz, .n .i64 nx, .n .i64 ny, .n .i64 nz, .n .i64 lo, .n .i64 hi], (box3 b0 b1 b2)] =
  bif gEq (rob3 j0 j1 j2 mr) (rob3 j0 j1 j2 mr) then (bif chk3 kind 1 px py pz nx ny nz lo hi then (bif (gEq (rob3 j0 j1 j2 mr) (rob3 j0 j1 j2 mr) && gEq (box3 b0 b1 b2) (box3 b0 b1 b2)) then (bif (gEq (rob3 j0 j1 j2 mr) (rob3 j0 j1 j2 mr) && gEq (box3 b0 b1 b2) (box3 b0 b1 b2)) then (bif decide (kind = 1) then some (.v (.t [.a [.n .i64 (dotV nx ny nz (M3.apply p1.r (V3.of ⟨px, py, pz⟩))).1, .n .i64 (dotV nx ny nz (M3.apply p1.r (V3.of ⟨px, py, pz⟩))).2], .b true]), []) else some (.v (.t [.a [.n .i64 (dotV nx ny nz (Po.app p1 (V3.of ⟨px, py, pz⟩))).1, .n .i64 (dotV nx ny nz (Po.app p1 (V3.of ⟨px, py, pz⟩))).2], .b true]), [])) else none) else none) else some (.v (.t [.a [.n .i64 0, .n .i64 0], .b false]), [])) else none := by kernel_rfl
theorem snd_val3_1 {j0 j1 j2 : J} {mr : List (List PV)} {b0 b1 b2 : Iv} {p0 p1 p2 : Po} (hc : SndA1 Tryz.prog 67 [(rob3 j0 j1 j2 mr)] (.v (.n .i64 0))) (hins : SndA1 Tryz.prog 41 [(rob3 j0 j1 j2 mr), (box3 b0 b1 b2)] (.v (.b true))) (hl : SndA1 Tryz.prog 73 [(rob3 j0 j1 j2 mr), (box3 b0 b1 b2)] (.v (lk3 p0 p1 p2))) (kind px py pz nx ny nz lo hi : Int) : SndA1 Tryz.prog 13 [(rob3 j0 j1 j2 mr), .a [.n .i64 kind, .n .i64 1, .n .i64 px, .n .i64 py, .n .i64 pz, .n .i64 nx, .n .i64 ny, .n .i64 nz, .n .i64 lo, .n .i64 hi], (box3 b0 b1 b2)] (.v (valR (chk3 kind 1 px py pz nx ny nz lo hi) (vecP kind p1 px py pz) nx ny nz)) := by
  refine runK_sound (N := 60) tabOk mixed (OrL.ok (l := ((40, o_con (rob3 j0 j1 j2 mr) chk3) :: (41, o_ins (rob3 j0 j1 j2 mr) (box3 b0 b1 b2)) :: (73, o_lnk (rob3 j0 j1 j2 mr) (box3 b0 b1 b2) (lk3 p0 p1 p2)) :: Od.L6)) ⟨ok_con (snd_con3 hc), ok_ins hins, ok_lnk hl, Od.L6_ok⟩) ?_
  rw [tr_val3_1, gEq_self, gEq_self, cond_true, Bool.and_true, cond_true]
  unfold valR vecP
  cases chk3 kind 1 px py pz nx ny nz lo hi with
  | false => rfl
  | true => cases decide (kind = 1) <;> rfl
set_option maxRecDepth 100000 in
theorem tr_val3_2 (j0 j1 j2 : J) (mr : List (List PV)) (b0 b1 b2 : Iv) (p0 p1 p2 : Po) (kind px py pz nx ny nz lo hi : Int) : runK T (OrL.k ((40, o_con (rob3 j0 j1 j2 mr) chk3) :: (41, o_ins (rob3 j0 j1 j2 mr) (box3 b0 b1 b2)) :: (73, o_lnk (rob3 j0 j1 j2 mr) (box3 b0 b1 b2) (lk3 p0 p1 p2)) :: Od.L6)) 60 13 [(rob3 j0 j1 j2 mr), .a [.n .i64 kind, .n .i64 2, .n .i64 px, .n .i64 py, .n .i64 pz, .n .i64 nx, .n .i64 ny, .n .i64 nz, .n .i64 lo, .n .i64 hi], (box3 b0 b1 b2)] =
  bif gEq (rob3 j0 j1 j2 mr) (rob3 j0 j1 j2 mr) then (bif chk3 kind 2 px py pz nx ny nz lo hi then (bif (gEq (rob3 j0 j1 j2 mr) (rob3 j0 j1 j2 mr) && gEq (box3 b0 b1 b2) (box3 b0 b1 b2)) then (bif (gEq (rob3 j0 j1 j2 mr) (rob3 j0 j1 j2 mr) && gEq (box3 b0 b1 b2) (box3 b0 b1 b2)) then (bif decide (kind = 1) then some (.v (.t [.a [.n .i64 (dotV nx ny nz (M3.apply p2.r (V3.of ⟨px, py, pz⟩))).1, .n .i64 (dotV nx ny nz (M3.apply p2.r (V3.of ⟨px, py, pz⟩))).2], .b true]), []) else some (.v (.t [.a [.n .i64 (dotV nx ny nz (Po.app p2 (V3.of ⟨px, py, pz⟩))).1, .n .i64 (dotV nx ny nz (Po.app p2 (V3.of ⟨px, py, pz⟩))).2], .b true]), [])) else none) else none) else some (.v (.t [.a [.n .i64 0, .n .i64 0], .b false]), [])) else none := by kernel_rfl
theorem snd_val3_2 {j0 j1 j2 : J} {mr : List (List PV)} {b0 b1 b2 : Iv} {p0 p1 p2 : Po} (hc : SndA1 Tryz.prog 67 [(rob3 j0 j1 j2 mr)] (.v (.n .i64 0))) (hins : SndA1 Tryz.prog 41 [(rob3 j0 j1 j2 mr), (box3 b0 b1 b2)] (.v (.b true))) (hl : SndA1 Tryz.prog 73 [(rob3 j0 j1 j2 mr), (box3 b0 b1 b2)] (.v (lk3 p0 p1 p2))) (kind px py pz nx ny nz lo hi : Int) : SndA1 Tryz.prog 13 [(rob3 j0 j1 j2 mr), .a [.n .i64 kind, .n .i64 2, .n .i64 px, .n .i64 py, .n .i64 pz, .n .i64 nx, .n .i64 ny, .n .i64 nz, .n .i64 lo, .n .i64 hi], (box3 b0 b1 b2)] (.v (valR (chk3 kind 2 px py pz nx ny nz lo hi) (vecP kind p2 px py pz) nx ny nz)) := by
  refine runK_sound (N := 60) tabOk mixed (OrL.ok (l := ((40, o_con (rob3 j0 j1 j2 mr) chk3) :: (41, o_ins (rob3 j0 j1 j2 mr) (box3 b0 b1 b2)) :: (73, o_lnk (rob3 j0 j1 j2 mr) (box3 b0 b1 b2) (lk3 p0 p1 p2)) :: Od.L6)) ⟨ok_con (snd_con3 hc), ok_ins hins, ok_lnk hl, Od.L6_ok⟩) ?_
  rw [tr_val3_2, gEq_self, gEq_self, cond_true, Bool.and_true, cond_true]
  unfold valR vecP
  cases chk3 kind 2 px py pz nx ny nz lo hi with
  | false => rfl
  | true => cases decide (kind = 1) <;> rfl
set_option maxRecDepth 100000 in
theorem tr_val3_x (j0 j1 j2 : J) (mr : List (List PV)) (b0 b1 b2 : Iv) (kind link px py pz nx ny nz lo hi : Int) : runK T (OrL.k ((40, o_con0 (rob3 j0 j1 j2 mr) (.l [[.n .i64 kind, .n .i64 link, .n .i64 px, .n .i64 py, .n .i64 pz, .n .i64 nx, .n .i64 ny, .n .i64 nz, .n .i64 lo, .n .i64 hi]])) :: Od.L6)) 60 13 [(rob3 j0 j1 j2 mr), .a [.n .i64 kind, .n .i64 link, .n .i64 px, .n .i64 py, .n .i64 pz, .n .i64 nx, .n .i64 ny, .n .i64 nz, .n .i64 lo, .n .i64 hi], (box3 b0 b1 b2)] =
  bif (gEq (rob3 j0 j1 j2 mr) (rob3 j0 j1 j2 mr) && gEq (.l [[.n .i64 kind, .n .i64 link, .n .i64 px, .n .i64 py, .n .i64 pz, .n .i64 nx, .n .i64 ny, .n .i64 nz, .n .i64 lo, .n .i64 hi]]) (.l [[.n .i64 kind, .n .i64 link, .n .i64 px, .n .i64 py, .n .i64 pz, .n .i64 nx, .n .i64 ny, .n .i64 nz, .n .i64 lo, .n .i64 hi]])) then some (.v (.t [.a [.n .i64 0, .n .i64 0], .b false]), []) else none := by kernel_rfl
theorem snd_val3_x {j0 j1 j2 : J} {mr : List (List PV)} {b0 b1 b2 : Iv} (hc : SndA1 Tryz.prog 67 [(rob3 j0 j1 j2 mr)] (.v (.n .i64 0))) (v : V3) (kind link px py pz nx ny nz lo hi : Int) (h : chk3 kind link px py pz nx ny nz lo hi = false) : SndA1 Tryz.prog 13 [(rob3 j0 j1 j2 mr), .a [.n .i64 kind, .n .i64 link, .n .i64 px, .n .i64 py, .n .i64 pz, .n .i64 nx, .n .i64 ny, .n .i64 nz, .n .i64 lo, .n .i64 hi], (box3 b0 b1 b2)] (.v (valR (chk3 kind link px py pz nx ny nz lo hi) v nx ny nz)) := by
  have hq := snd_con3 hc kind link px py pz nx ny nz lo hi
  rw [h] at hq
  refine runK_sound (N := 60) tabOk mixed (OrL.ok (l := ((40, o_con0 (rob3 j0 j1 j2 mr) (.l [[.n .i64 kind, .n .i64 link, .n .i64 px, .n .i64 py, .n .i64 pz, .n .i64 nx, .n .i64 ny, .n .i64 nz, .n .i64 lo, .n .i64 hi]])) :: Od.L6)) ⟨ok_con0 hq, Od.L6_ok⟩) ?_
  rw [tr_val3_x, gEq_self, gEq_self, h]
  rfl
end Go.Proofs.YtnlnbnjnapofmaaGreat.Ov
namespace Go.Proofs.YtnlnbnjnapofmaaGreat.Ow
open Go.Rx Rt Go.Sx Go.RowKit
open Ov
theorem l1 {α : Type} {l : List α} (h : l.length = 1) : ∃ a, l = [a] := by match l, h with | [a], _ => exact ⟨a, rfl⟩
theorem l2 {α : Type} {l : List α} (h : l.length = 2) : ∃ a b, l = [a, b] := by match l, h with | [a, b], _ => exact ⟨a, b, rfl⟩
theorem l3 {α : Type} {l : List α} (h : l.length = 3) : ∃ a b c, l = [a, b, c] := by match l, h with | [a, b, c], _ => exact ⟨a, b, c, rfl⟩
theorem bxs_ok {l : List Int} {js : List J} (hj : ∀ j ∈ js, JB j) : ∀ n, n ≤ js.length → ∀ (k : Nat) (j : J) (b : Iv), js[k]? = some j → (bxs l js n).1[k]? = some b → bxOk j b
  | 0, _, k, j, b, _, h => by simp [bxs] at h
  | n + 1, hn, k, j, b, hk, h => by
    have hjn : js[n]? = some (js[n]'(by omega)) := List.getElem?_eq_getElem (by omega)
    generalize js[n]'(by omega) = jn at hjn
    simp only [bxs, hjn] at h
    have hl := bxs_length (l := l) (js := js) n (by omega)
    by_cases hkn : k < n
    · rw [List.getElem?_append_left (by omega)] at h
      exact bxs_ok hj n (by omega) k j b hk h
    · rw [List.getElem?_append_right (by omega), hl] at h
      have h0 : k - n = 0 := by
        have := (List.getElem?_eq_some_iff.1 h).1
        simp at this; omega
      obtain rfl : k = n := by omega
      rw [h0] at h
      rw [hjn] at hk
      cases hk
      simp only [List.getElem?_cons_zero, Option.some.injEq] at h
      subst h
      obtain ⟨b1, b2, b3⟩ := hj j (List.mem_of_getElem? hjn)
      have r := srcR_bnd l (bxs l js k).2 (k := j.hi - j.lo + 1) (by omega)
      have hx : 0 ≤ (bxW l ((bxs l js k).2 + 1) (j.hi - j.lo)).1 := by
        have a1 := srcR_bnd l ((bxs l js k).2 + 1 + 1) (k := 3000) (by decide)
        have a2 := srcR_bnd l ((bxs l js k).2 + 1 + 1) (k := 200) (by decide)
        unfold bxW
        repeat' split
        all_goals (dsimp only; omega)
      unfold bxOk bxLo
      dsimp only
      omega
def nIn (x : Int) : Prop := -16384 ≤ x ∧ x ≤ 16384
def zT (x y z : Int) : Bool := !((decide (x = 0)) && ((decide (y = 0)) && ((decide (z = 0)) && true)))
theorem df {p : Prop} [Decidable p] (h : ¬ p) : decide p = false := decide_eq_false h
theorem chk_same1 {kind link px py pz ax ay az bx by_ bz lo hi : Int} (h0 : nIn ax) (h1 : nIn ay) (h2 : nIn az) (h3 : nIn bx) (h4 : nIn by_) (h5 : nIn bz) (hz : zT ax ay az = zT bx by_ bz) : chk1 kind link px py pz ax ay az lo hi = chk1 kind link px py pz bx by_ bz lo hi := by
  unfold zT at hz
  unfold chk1
  rw [hz, df (p := ax < -16384) (by unfold nIn at *; omega), df (p := 16384 < ax) (by unfold nIn at *; omega), df (p := ay < -16384) (by unfold nIn at *; omega), df (p := 16384 < ay) (by unfold nIn at *; omega), df (p := az < -16384) (by unfold nIn at *; omega), df (p := 16384 < az) (by unfold nIn at *; omega), df (p := bx < -16384) (by unfold nIn at *; omega), df (p := 16384 < bx) (by unfold nIn at *; omega), df (p := by_ < -16384) (by unfold nIn at *; omega), df (p := 16384 < by_) (by unfold nIn at *; omega), df (p := bz < -16384) (by unfold nIn at *; omega), df (p := 16384 < bz) (by unfold nIn at *; omega)]
theorem chk_link1 {kind link px py pz nx ny nz lo hi : Int} (h : link < 0 ∨ 1 ≤ link) : chk1 kind link px py pz nx ny nz lo hi = false := by
  unfold chk1
  rcases h with h | h
  · rw [decide_eq_true h]
    cases (!decide (kind = 0)) <;> cases (!decide (kind = 1)) <;> rfl
  · rw [decide_eq_true h]
    cases (!decide (kind = 0)) <;> cases (!decide (kind = 1)) <;> cases (decide (link < 0)) <;> rfl
theorem chk_same2 {kind link px py pz ax ay az bx by_ bz lo hi : Int} (h0 : nIn ax) (h1 : nIn ay) (h2 : nIn az) (h3 : nIn bx) (h4 : nIn by_) (h5 : nIn bz) (hz : zT ax ay az = zT bx by_ bz) : chk2 kind link px py pz ax ay az lo hi = chk2 kind link px py pz bx by_ bz lo hi := by
  unfold zT at hz
  unfold chk2
  rw [hz, df (p := ax < -16384) (by unfold nIn at *; omega), df (p := 16384 < ax) (by unfold nIn at *; omega), df (p := ay < -16384) (by unfold nIn at *; omega), df (p := 16384 < ay) (by unfold nIn at *; omega), df (p := az < -16384) (by unfold nIn at *; omega), df (p := 16384 < az) (by unfold nIn at *; omega), df (p := bx < -16384) (by unfold nIn at *; omega), df (p := 16384 < bx) (by unfold nIn at *; omega), df (p := by_ < -16384) (by unfold nIn at *; omega), df (p := 16384 < by_) (by unfold nIn at *; omega), df (p := bz < -16384) (by unfold nIn at *; omega), df (p := 16384 < bz) (by unfold nIn at *; omega)]
theorem chk_link2 {kind link px py pz nx ny nz lo hi : Int} (h : link < 0 ∨ 2 ≤ link) : chk2 kind link px py pz nx ny nz lo hi = false := by
  unfold chk2
  rcases h with h | h
  · rw [decide_eq_true h]
    cases (!decide (kind = 0)) <;> cases (!decide (kind = 1)) <;> rfl
  · rw [decide_eq_true h]
    cases (!decide (kind = 0)) <;> cases (!decide (kind = 1)) <;> cases (decide (link < 0)) <;> rfl
theorem chk_same3 {kind link px py pz ax ay az bx by_ bz lo hi : Int} (h0 : nIn ax) (h1 : nIn ay) (h2 : nIn az) (h3 : nIn bx) (h4 : nIn by_) (h5 : nIn bz) (hz : zT ax ay az = zT bx by_ bz) : chk3 kind link px py pz ax ay az lo hi = chk3 kind link px py pz bx by_ bz lo hi := by
  unfold zT at hz
  unfold chk3
  rw [hz, df (p := ax < -16384) (by unfold nIn at *; omega), df (p := 16384 < ax) (by unfold nIn at *; omega), df (p := ay < -16384) (by unfold nIn at *; omega), df (p := 16384 < ay) (by unfold nIn at *; omega), df (p := az < -16384) (by unfold nIn at *; omega), df (p := 16384 < az) (by unfold nIn at *; omega), df (p := bx < -16384) (by unfold nIn at *; omega), df (p := 16384 < bx) (by unfold nIn at *; omega), df (p := by_ < -16384) (by unfold nIn at *; omega), df (p := 16384 < by_) (by unfold nIn at *; omega), df (p := bz < -16384) (by unfold nIn at *; omega), df (p := 16384 < bz) (by unfold nIn at *; omega)]
theorem chk_link3 {kind link px py pz nx ny nz lo hi : Int} (h : link < 0 ∨ 3 ≤ link) : chk3 kind link px py pz nx ny nz lo hi = false := by
  unfold chk3
  rcases h with h | h
  · rw [decide_eq_true h]
    cases (!decide (kind = 0)) <;> cases (!decide (kind = 1)) <;> rfl
  · rw [decide_eq_true h]
    cases (!decide (kind = 0)) <;> cases (!decide (kind = 1)) <;> cases (decide (link < 0)) <;> rfl
theorem zT_neg (x y z : Int) : zT (-x) (-y) (-z) = zT x y z := by
  unfold zT
  rw [show decide (-x = 0) = decide (x = 0) from decide_eq_decide.2 (by omega), show decide (-y = 0) = decide (y = 0) from decide_eq_decide.2 (by omega), show decide (-z = 0) = decide (z = 0) from decide_eq_decide.2 (by omega)]
theorem zT_dbl (x y z : Int) : zT (2 * x) (2 * y) (2 * z) = zT x y z := by
  unfold zT
  rw [show decide (2 * x = 0) = decide (x = 0) from decide_eq_decide.2 (by omega), show decide (2 * y = 0) = decide (y = 0) from decide_eq_decide.2 (by omega), show decide (2 * z = 0) = decide (z = 0) from decide_eq_decide.2 (by omega)]
def n13 (x : Int) : Prop := -8192 ≤ x ∧ x ≤ 8192
theorem n13_a {x : Int} (h : n13 x) : nIn x := by unfold n13 at h; unfold nIn; omega
theorem n13_b {x : Int} (h : n13 x) : nIn (-x) := by unfold n13 at h; unfold nIn; omega
theorem n13_c {x : Int} (h : n13 x) : nIn (2 * x) := by unfold n13 at h; unfold nIn; omega
theorem val_ex (l o : List Int) (kind link px py pz lo hi : Int) : ∃ (g : Int → Int → Int → Bool) (v : V3),
    (∀ nx ny nz : Int, SndA1 Tryz.prog 13 [robP l, .a [.n .i64 kind, .n .i64 link, .n .i64 px, .n .i64 py, .n .i64 pz, .n .i64 nx, .n .i64 ny, .n .i64 nz, .n .i64 lo, .n .i64 hi], boxP l o] (.v (valR (g nx ny nz) v nx ny nz))) ∧
    ∀ nx ny nz : Int, n13 nx → n13 ny → n13 nz → g (-nx) (-ny) (-nz) = g nx ny nz ∧ g (2 * nx) (2 * ny) (2 * nz) = g nx ny nz := by
  have hn := nJ_b l 0
  have hjl := jsOf_len l 0 (nJ l 0)
  have hbl := boxOf_len l o
  have hpl : (lksOf l (boxOf l o)).length = nJ l 0 := lks_len _ (by omega) (by omega)
  have hv : ∀ a ∈ boxOf l o, Iv.valid a = true := bxs_valid (jsOf_b l 0 _) _
  have hc := snd_check l
  have hl : SndA1 Tryz.prog 73 [robP l, boxP l o] (.v (.l ((lksOf l (boxOf l o)).map poC))) := snd_links hbl hv
  have hok := bxs_ok (l := o) (jsOf_b l 0 (nJ l 0)) (nJ l 0) (by omega)
  change ∀ (k : Nat) (j : J) (b : Iv), (jsOf l 0 (nJ l 0)).1[k]? = some j → (boxOf l o)[k]? = some b → bxOk j b at hok
  rcases (by omega : nJ l 0 = 1 ∨ nJ l 0 = 2 ∨ nJ l 0 = 3) with h | h | h <;> rw [h] at hjl hbl hpl
  · rw [← h] at hjl hbl hpl
    obtain ⟨j0, hj⟩ := l1 (hjl.trans h)
    obtain ⟨b0, hb⟩ := l1 (hbl.trans h)
    obtain ⟨p0, hp⟩ := l1 (hpl.trans h)
    have eR : robP l = rob1 j0 ((msOf l 0 (nM l 0)).map mp) := by unfold robP rob1; rw [hj]; rfl
    have eB : boxP l o = box1 b0 := by unfold boxP box1; rw [hb]; rfl
    have eK : PV.l ((lksOf l (boxOf l o)).map poC) = lk1 p0 := by unfold lk1; rw [hp]; rfl
    rw [eR] at hc
    rw [eR, eB, eK] at hl
    rw [hj, hb] at hok
    have hins := snd_ins1 (mr := (msOf l 0 (nM l 0)).map mp) (hok 0 _ _ rfl rfl) hc
    rw [eR, eB]
    have hg : ∀ nx ny nz : Int, n13 nx → n13 ny → n13 nz → chk1 kind link px py pz (-nx) (-ny) (-nz) lo hi = chk1 kind link px py pz nx ny nz lo hi ∧ chk1 kind link px py pz (2 * nx) (2 * ny) (2 * nz) lo hi = chk1 kind link px py pz nx ny nz lo hi := fun nx ny nz h0 h1 h2 =>
      ⟨chk_same1 (n13_b h0) (n13_b h1) (n13_b h2) (n13_a h0) (n13_a h1) (n13_a h2) (zT_neg _ _ _), chk_same1 (n13_c h0) (n13_c h1) (n13_c h2) (n13_a h0) (n13_a h1) (n13_a h2) (zT_dbl _ _ _)⟩
    by_cases hk0 : link = 0
    · subst hk0
      exact ⟨fun nx ny nz => chk1 kind 0 px py pz nx ny nz lo hi, vecP kind p0 px py pz, fun nx ny nz => snd_val1_0 hc hins hl kind px py pz nx ny nz lo hi, hg⟩
    exact ⟨fun nx ny nz => chk1 kind link px py pz nx ny nz lo hi, V3.of ⟨0, 0, 0⟩, fun nx ny nz => snd_val1_x hc _ kind link px py pz nx ny nz lo hi (chk_link1 (by omega)), hg⟩
  · rw [← h] at hjl hbl hpl
    obtain ⟨j0, j1, hj⟩ := l2 (hjl.trans h)
    obtain ⟨b0, b1, hb⟩ := l2 (hbl.trans h)
    obtain ⟨p0, p1, hp⟩ := l2 (hpl.trans h)
    have eR : robP l = rob2 j0 j1 ((msOf l 0 (nM l 0)).map mp) := by unfold robP rob2; rw [hj]; rfl
    have eB : boxP l o = box2 b0 b1 := by unfold boxP box2; rw [hb]; rfl
    have eK : PV.l ((lksOf l (boxOf l o)).map poC) = lk2 p0 p1 := by unfold lk2; rw [hp]; rfl
    rw [eR] at hc
    rw [eR, eB, eK] at hl
    rw [hj, hb] at hok
    have hins := snd_ins2 (mr := (msOf l 0 (nM l 0)).map mp) (hok 0 _ _ rfl rfl) (hok 1 _ _ rfl rfl) hc
    rw [eR, eB]
    have hg : ∀ nx ny nz : Int, n13 nx → n13 ny → n13 nz → chk2 kind link px py pz (-nx) (-ny) (-nz) lo hi = chk2 kind link px py pz nx ny nz lo hi ∧ chk2 kind link px py pz (2 * nx) (2 * ny) (2 * nz) lo hi = chk2 kind link px py pz nx ny nz lo hi := fun nx ny nz h0 h1 h2 =>
      ⟨chk_same2 (n13_b h0) (n13_b h1) (n13_b h2) (n13_a h0) (n13_a h1) (n13_a h2) (zT_neg _ _ _), chk_same2 (n13_c h0) (n13_c h1) (n13_c h2) (n13_a h0) (n13_a h1) (n13_a h2) (zT_dbl _ _ _)⟩
    by_cases hk0 : link = 0
    · subst hk0
      exact ⟨fun nx ny nz => chk2 kind 0 px py pz nx ny nz lo hi, vecP kind p0 px py pz, fun nx ny nz => snd_val2_0 hc hins hl kind px py pz nx ny nz lo hi, hg⟩
    by_cases hk1 : link = 1
    · subst hk1
      exact ⟨fun nx ny nz => chk2 kind 1 px py pz nx ny nz lo hi, vecP kind p1 px py pz, fun nx ny nz => snd_val2_1 hc hins hl kind px py pz nx ny nz lo hi, hg⟩
    exact ⟨fun nx ny nz => chk2 kind link px py pz nx ny nz lo hi, V3.of ⟨0, 0, 0⟩, fun nx ny nz => snd_val2_x hc _ kind link px py pz nx ny nz lo hi (chk_link2 (by omega)), hg⟩
  · rw [← h] at hjl hbl hpl
    obtain ⟨j0, j1, j2, hj⟩ := l3 (hjl.trans h)
    obtain ⟨b0, b1, b2, hb⟩ := l3 (hbl.trans h)
    obtain ⟨p0, p1, p2, hp⟩ := l3 (hpl.trans h)
    have eR : robP l = rob3 j0 j1 j2 ((msOf l 0 (nM l 0)).map mp) := by unfold robP rob3; rw [hj]; rfl
    have eB : boxP l o = box3 b0 b1 b2 := by unfold boxP box3; rw [hb]; rfl
    have eK : PV.l ((lksOf l (boxOf l o)).map poC) = lk3 p0 p1 p2 := by unfold lk3; rw [hp]; rfl
    rw [eR] at hc
    rw [eR, eB, eK] at hl
    rw [hj, hb] at hok
    have hins := snd_ins3 (mr := (msOf l 0 (nM l 0)).map mp) (hok 0 _ _ rfl rfl) (hok 1 _ _ rfl rfl) (hok 2 _ _ rfl rfl) hc
    rw [eR, eB]
    have hg : ∀ nx ny nz : Int, n13 nx → n13 ny → n13 nz → chk3 kind link px py pz (-nx) (-ny) (-nz) lo hi = chk3 kind link px py pz nx ny nz lo hi ∧ chk3 kind link px py pz (2 * nx) (2 * ny) (2 * nz) lo hi = chk3 kind link px py pz nx ny nz lo hi := fun nx ny nz h0 h1 h2 =>
      ⟨chk_same3 (n13_b h0) (n13_b h1) (n13_b h2) (n13_a h0) (n13_a h1) (n13_a h2) (zT_neg _ _ _), chk_same3 (n13_c h0) (n13_c h1) (n13_c h2) (n13_a h0) (n13_a h1) (n13_a h2) (zT_dbl _ _ _)⟩
    by_cases hk0 : link = 0
    · subst hk0
      exact ⟨fun nx ny nz => chk3 kind 0 px py pz nx ny nz lo hi, vecP kind p0 px py pz, fun nx ny nz => snd_val3_0 hc hins hl kind px py pz nx ny nz lo hi, hg⟩
    by_cases hk1 : link = 1
    · subst hk1
      exact ⟨fun nx ny nz => chk3 kind 1 px py pz nx ny nz lo hi, vecP kind p1 px py pz, fun nx ny nz => snd_val3_1 hc hins hl kind px py pz nx ny nz lo hi, hg⟩
    by_cases hk2 : link = 2
    · subst hk2
      exact ⟨fun nx ny nz => chk3 kind 2 px py pz nx ny nz lo hi, vecP kind p2 px py pz, fun nx ny nz => snd_val3_2 hc hins hl kind px py pz nx ny nz lo hi, hg⟩
    exact ⟨fun nx ny nz => chk3 kind link px py pz nx ny nz lo hi, V3.of ⟨0, 0, 0⟩, fun nx ny nz => snd_val3_x hc _ kind link px py pz nx ny nz lo hi (chk_link3 (by omega)), hg⟩
end Go.Proofs.YtnlnbnjnapofmaaGreat.Ow
namespace Go.Proofs.YtnlnbnjnapofmaaGreat.Ox
open Go.Rx Rt Go.Sx Go.RowKit
open Od Ov Ow
noncomputable def o_call (as_ : List PV) (r : PV) : List PV → Option (Bool × Ret) := fun ps => some (gEq (.t ps) (.t as_), .v r)
theorem ok_call {f : Nat} {as_ : List PV} {r : PV} (h : SndA1 Tryz.prog f as_ (.v r)) : OneOk Tryz.prog f (o_call as_ r) := by
  intro ps q hh
  unfold o_call at hh
  simp only [Option.some.injEq, Prod.mk.injEq] at hh
  obtain ⟨hg, rfl⟩ := hh
  have := gEq_eq hg
  simp only [PV.t.injEq] at this
  rw [this]
  exact h
noncomputable def o_val (R B : PV) (kind link px py pz lo hi : Int) (g : Int → Int → Int → Bool) (vlo vhi : Int → Int → Int → Int) : List PV → Option (Bool × Ret) := fun ps => match ps with
  | [rb, .a [.n .i64 a0, .n .i64 a1, .n .i64 a2, .n .i64 a3, .n .i64 a4, .n .i64 a5, .n .i64 a6, .n .i64 a7, .n .i64 a8, .n .i64 a9], bx] => some (gEq (.t [rb, .n .i64 a0, .n .i64 a1, .n .i64 a2, .n .i64 a3, .n .i64 a4, .n .i64 a8, .n .i64 a9, bx]) (.t [R, .n .i64 kind, .n .i64 link, .n .i64 px, .n .i64 py, .n .i64 pz, .n .i64 lo, .n .i64 hi, B]), .v (.t [.a [.n .i64 (vlo a5 a6 a7), .n .i64 (vhi a5 a6 a7)], .b (g a5 a6 a7)]))
  | _ => none
theorem ok_val {R B : PV} {kind link px py pz lo hi : Int} {g : Int → Int → Int → Bool} {vlo vhi : Int → Int → Int → Int} (h : ∀ nx ny nz : Int, SndA1 Tryz.prog 13 [R, .a [.n .i64 kind, .n .i64 link, .n .i64 px, .n .i64 py, .n .i64 pz, .n .i64 nx, .n .i64 ny, .n .i64 nz, .n .i64 lo, .n .i64 hi], B] (.v (.t [.a [.n .i64 (vlo nx ny nz), .n .i64 (vhi nx ny nz)], .b (g nx ny nz)]))) :
    OneOk Tryz.prog 13 (o_val R B kind link px py pz lo hi g vlo vhi) := by
  intro ps q hh
  unfold o_val at hh
  split at hh
  · simp only [Option.some.injEq, Prod.mk.injEq] at hh
    obtain ⟨hg, rfl⟩ := hh
    have := gEq_eq hg
    simp only [PV.t.injEq, List.cons.injEq, PV.n.injEq, true_and, and_true] at this
    obtain ⟨rfl, rfl, rfl, rfl, rfl, rfl, rfl, rfl, rfl⟩ := this
    exact h _ _ _
  · cases hh
theorem dot_bnd {nx ny nz v0 v1 v2 v3 v4 v5 : Int} (hx : -8192 ≤ nx ∧ nx ≤ 8192) (hy : -8192 ≤ ny ∧ ny ≤ 8192) (hz : -8192 ≤ nz ∧ nz ≤ 8192) : (-35184372088832 ≤ (dot nx ny nz v0 v1 v2 v3 v4 v5).1 ∧ (dot nx ny nz v0 v1 v2 v3 v4 v5).1 ≤ 35184372088832) ∧ (-35184372088832 ≤ (dot nx ny nz v0 v1 v2 v3 v4 v5).2 ∧ (dot nx ny nz v0 v1 v2 v3 v4 v5).2 ≤ 35184372088832) := by
  by_cases hv : (-268435456 ≤ v0 ∧ v0 ≤ v1 ∧ v1 ≤ 268435456) ∧ (-268435456 ≤ v2 ∧ v2 ≤ v3 ∧ v3 ≤ 268435456) ∧ (-268435456 ≤ v4 ∧ v4 ≤ v5 ∧ v5 ≤ 268435456)
  · by_cases hn : nx = 0 ∧ ny = 0 ∧ nz = 0
    · obtain ⟨rfl, rfl, rfl⟩ := hn
      rw [dot_zero]; dsimp only; omega
    · rw [dot_in (by omega) (by omega) (by omega) hv.1 hv.2.1 hv.2.2 hn]
      have a0 := mulb (a := nx) (b := v0) (by omega) (by omega)
      have a1 := mulb (a := nx) (b := v1) (by omega) (by omega)
      have a2 := mulb (a := ny) (b := v2) (by omega) (by omega)
      have a3 := mulb (a := ny) (b := v3) (by omega) (by omega)
      have a4 := mulb (a := nz) (b := v4) (by omega) (by omega)
      have a5 := mulb (a := nz) (b := v5) (by omega) (by omega)
      generalize nx * v0 = p0 at *; generalize nx * v1 = p1 at *; generalize ny * v2 = p2 at *; generalize ny * v3 = p3 at *; generalize nz * v4 = p4 at *; generalize nz * v5 = p5 at *
      dsimp only
      omega
  · rw [dot_out hv]; dsimp only; omega
theorem tmod_b (x : Int) : -8192 ≤ x.tmod 8192 ∧ x.tmod 8192 ≤ 8192 := by
  have h := Int.tmod_lt_of_pos x (b := 8192) (by decide)
  have h2 := Int.lt_tmod_of_pos x (b := 8192) (by decide)
  omega
set_option maxRecDepth 100000 in
theorem tr_scales (L M O B R1 R2 : List (List PV)) (kind link px py pz nx ny nz lo hi : Int) (g : Int → Int → Int → Bool) (vlo vhi : Int → Int → Int → Int) : runK T (OrL.k [(10, o_call [.l L] (.a [.l R1, .l R2])), (11, o_call [.a [.l R1, .l R2], .n .i64 1, .l M] (.l [[.n .i64 kind, .n .i64 link, .n .i64 px, .n .i64 py, .n .i64 pz, .n .i64 nx, .n .i64 ny, .n .i64 nz, .n .i64 lo, .n .i64 hi]])), (12, o_call [.a [.l R1, .l R2], .l O] (.l B)), (13, o_val (.a [.l R1, .l R2]) (.l B) kind link px py pz lo hi g vlo vhi), (14, o_call [] (.b true))]) 60 3 [.l L, .l M, .l O] =
  bif (gEq (.t [.l L]) (.t [.l L])) then (bif (gEq (.t [.a [.l R1, .l R2], .n .i64 1, .l M]) (.t [.a [.l R1, .l R2], .n .i64 1, .l M])) then (bif (gEq (.t [.a [.l R1, .l R2], .l O]) (.t [.a [.l R1, .l R2], .l O])) then (bif (gEq (.t [.a [.l R1, .l R2], .n .i64 kind, .n .i64 link, .n .i64 px, .n .i64 py, .n .i64 pz, .n .i64 lo, .n .i64 hi, .l B]) (.t [.a [.l R1, .l R2], .n .i64 kind, .n .i64 link, .n .i64 px, .n .i64 py, .n .i64 pz, .n .i64 lo, .n .i64 hi, .l B])) then (bif (g (nx.tmod 8192) (ny.tmod 8192) (nz.tmod 8192)) then (bif (gEq (.t [.a [.l R1, .l R2], .n .i64 kind, .n .i64 link, .n .i64 px, .n .i64 py, .n .i64 pz, .n .i64 lo, .n .i64 hi, .l B]) (.t [.a [.l R1, .l R2], .n .i64 kind, .n .i64 link, .n .i64 px, .n .i64 py, .n .i64 pz, .n .i64 lo, .n .i64 hi, .l B])) then (bif (g (IntKind.i64.wrap (0 - (nx.tmod 8192))) (IntKind.i64.wrap (0 - (ny.tmod 8192))) (IntKind.i64.wrap (0 - (nz.tmod 8192)))) then (bif (gEq (.t [.a [.l R1, .l R2], .n .i64 kind, .n .i64 link, .n .i64 px, .n .i64 py, .n .i64 pz, .n .i64 lo, .n .i64 hi, .l B]) (.t [.a [.l R1, .l R2], .n .i64 kind, .n .i64 link, .n .i64 px, .n .i64 py, .n .i64 pz, .n .i64 lo, .n .i64 hi, .l B])) then (bif (g (IntKind.i64.wrap (2 * (nx.tmod 8192))) (IntKind.i64.wrap (2 * (ny.tmod 8192))) (IntKind.i64.wrap (2 * (nz.tmod 8192)))) then (bif (gEq (.t []) (.t [])) then (bif ((decide ((vlo (IntKind.i64.wrap (0 - (nx.tmod 8192))) (IntKind.i64.wrap (0 - (ny.tmod 8192))) (IntKind.i64.wrap (0 - (nz.tmod 8192)))) = (IntKind.i64.wrap (0 - (vhi (nx.tmod 8192) (ny.tmod 8192) (nz.tmod 8192)))))) && ((decide ((vhi (IntKind.i64.wrap (0 - (nx.tmod 8192))) (IntKind.i64.wrap (0 - (ny.tmod 8192))) (IntKind.i64.wrap (0 - (nz.tmod 8192)))) = (IntKind.i64.wrap (0 - (vlo (nx.tmod 8192) (ny.tmod 8192) (nz.tmod 8192)))))) && true)) then (bif ((decide ((vlo (IntKind.i64.wrap (2 * (nx.tmod 8192))) (IntKind.i64.wrap (2 * (ny.tmod 8192))) (IntKind.i64.wrap (2 * (nz.tmod 8192)))) = (IntKind.i64.wrap (2 * (vlo (nx.tmod 8192) (ny.tmod 8192) (nz.tmod 8192)))))) && ((decide ((vhi (IntKind.i64.wrap (2 * (nx.tmod 8192))) (IntKind.i64.wrap (2 * (ny.tmod 8192))) (IntKind.i64.wrap (2 * (nz.tmod 8192)))) = (IntKind.i64.wrap (2 * (vhi (nx.tmod 8192) (ny.tmod 8192) (nz.tmod 8192)))))) && true)) then some (.v (.b true), [])
                        else some (.v (.b false), []))
                      else some (.v (.b false), []))
                    else none)
                  else bif (gEq (.t []) (.t [])) then some (.v (.b false), [])
                  else none)
                else none)
              else bif (gEq (.t [.a [.l R1, .l R2], .n .i64 kind, .n .i64 link, .n .i64 px, .n .i64 py, .n .i64 pz, .n .i64 lo, .n .i64 hi, .l B]) (.t [.a [.l R1, .l R2], .n .i64 kind, .n .i64 link, .n .i64 px, .n .i64 py, .n .i64 pz, .n .i64 lo, .n .i64 hi, .l B])) then (bif (g (IntKind.i64.wrap (2 * (nx.tmod 8192))) (IntKind.i64.wrap (2 * (ny.tmod 8192))) (IntKind.i64.wrap (2 * (nz.tmod 8192)))) then (bif (gEq (.t []) (.t [])) then some (.v (.b false), [])
                  else none)
                else bif (gEq (.t []) (.t [])) then some (.v (.b false), [])
                else none)
              else none)
            else none)
          else bif (gEq (.t [.a [.l R1, .l R2], .n .i64 kind, .n .i64 link, .n .i64 px, .n .i64 py, .n .i64 pz, .n .i64 lo, .n .i64 hi, .l B]) (.t [.a [.l R1, .l R2], .n .i64 kind, .n .i64 link, .n .i64 px, .n .i64 py, .n .i64 pz, .n .i64 lo, .n .i64 hi, .l B])) then (bif (g (IntKind.i64.wrap (0 - (nx.tmod 8192))) (IntKind.i64.wrap (0 - (ny.tmod 8192))) (IntKind.i64.wrap (0 - (nz.tmod 8192)))) then (bif (gEq (.t [.a [.l R1, .l R2], .n .i64 kind, .n .i64 link, .n .i64 px, .n .i64 py, .n .i64 pz, .n .i64 lo, .n .i64 hi, .l B]) (.t [.a [.l R1, .l R2], .n .i64 kind, .n .i64 link, .n .i64 px, .n .i64 py, .n .i64 pz, .n .i64 lo, .n .i64 hi, .l B])) then (bif (g (IntKind.i64.wrap (2 * (nx.tmod 8192))) (IntKind.i64.wrap (2 * (ny.tmod 8192))) (IntKind.i64.wrap (2 * (nz.tmod 8192)))) then (bif (gEq (.t []) (.t [])) then some (.v (.b false), [])
                  else none)
                else bif (gEq (.t []) (.t [])) then some (.v (.b false), [])
                else none)
              else none)
            else bif (gEq (.t [.a [.l R1, .l R2], .n .i64 kind, .n .i64 link, .n .i64 px, .n .i64 py, .n .i64 pz, .n .i64 lo, .n .i64 hi, .l B]) (.t [.a [.l R1, .l R2], .n .i64 kind, .n .i64 link, .n .i64 px, .n .i64 py, .n .i64 pz, .n .i64 lo, .n .i64 hi, .l B])) then (bif (g (IntKind.i64.wrap (2 * (nx.tmod 8192))) (IntKind.i64.wrap (2 * (ny.tmod 8192))) (IntKind.i64.wrap (2 * (nz.tmod 8192)))) then (bif (gEq (.t []) (.t [])) then some (.v (.b false), [])
                else none)
              else bif (gEq (.t []) (.t [])) then (bif ((decide ((vlo (IntKind.i64.wrap (0 - (nx.tmod 8192))) (IntKind.i64.wrap (0 - (ny.tmod 8192))) (IntKind.i64.wrap (0 - (nz.tmod 8192)))) = (IntKind.i64.wrap (0 - (vhi (nx.tmod 8192) (ny.tmod 8192) (nz.tmod 8192)))))) && ((decide ((vhi (IntKind.i64.wrap (0 - (nx.tmod 8192))) (IntKind.i64.wrap (0 - (ny.tmod 8192))) (IntKind.i64.wrap (0 - (nz.tmod 8192)))) = (IntKind.i64.wrap (0 - (vlo (nx.tmod 8192) (ny.tmod 8192) (nz.tmod 8192)))))) && true)) then (bif ((decide ((vlo (IntKind.i64.wrap (2 * (nx.tmod 8192))) (IntKind.i64.wrap (2 * (ny.tmod 8192))) (IntKind.i64.wrap (2 * (nz.tmod 8192)))) = (IntKind.i64.wrap (2 * (vlo (nx.tmod 8192) (ny.tmod 8192) (nz.tmod 8192)))))) && ((decide ((vhi (IntKind.i64.wrap (2 * (nx.tmod 8192))) (IntKind.i64.wrap (2 * (ny.tmod 8192))) (IntKind.i64.wrap (2 * (nz.tmod 8192)))) = (IntKind.i64.wrap (2 * (vhi (nx.tmod 8192) (ny.tmod 8192) (nz.tmod 8192)))))) && true)) then some (.v (.b true), [])
                  else some (.v (.b false), []))
                else some (.v (.b false), []))
              else none)
            else none)
          else none)
        else none)
      else none)
    else none)
  else none := by kernel_rfl
theorem wr_neg {x : Int} (h : -8192 ≤ x ∧ x ≤ 8192) : IntKind.i64.wrap (0 - x) = -x := (i64_in (by omega)).trans (by omega)
theorem wr_dbl {x : Int} (h : -8192 ≤ x ∧ x ≤ 8192) : IntKind.i64.wrap (2 * x) = 2 * x := i64_in (by omega)
theorem sp_scales (L M O B R1 R2 : List (List PV)) (kind link px py pz nx ny nz lo hi : Int) (g : Int → Int → Int → Bool) (vlo vhi : Int → Int → Int → Int)
    (h : ∀ x y z : Int, n13 x → n13 y → n13 z → g (-x) (-y) (-z) = g x y z ∧ g (2 * x) (2 * y) (2 * z) = g x y z ∧ vlo (-x) (-y) (-z) = IntKind.i64.wrap (0 - vhi x y z) ∧ vhi (-x) (-y) (-z) = IntKind.i64.wrap (0 - vlo x y z) ∧ vlo (2 * x) (2 * y) (2 * z) = IntKind.i64.wrap (2 * vlo x y z) ∧ vhi (2 * x) (2 * y) (2 * z) = IntKind.i64.wrap (2 * vhi x y z)) :
    runK T (OrL.k [(10, o_call [.l L] (.a [.l R1, .l R2])), (11, o_call [.a [.l R1, .l R2], .n .i64 1, .l M] (.l [[.n .i64 kind, .n .i64 link, .n .i64 px, .n .i64 py, .n .i64 pz, .n .i64 nx, .n .i64 ny, .n .i64 nz, .n .i64 lo, .n .i64 hi]])), (12, o_call [.a [.l R1, .l R2], .l O] (.l B)), (13, o_val (.a [.l R1, .l R2]) (.l B) kind link px py pz lo hi g vlo vhi), (14, o_call [] (.b true))]) 60 3 [.l L, .l M, .l O] = some (.v (.b true), []) := by
  rw [tr_scales]
  have bx := tmod_b nx
  have by_ := tmod_b ny
  have bz := tmod_b nz
  rw [wr_neg bx, wr_neg by_, wr_neg bz, wr_dbl bx, wr_dbl by_, wr_dbl bz]
  obtain ⟨h1, h2, h3, h4, h5, h6⟩ := h _ _ _ bx by_ bz
  rw [h1, h2, h3, h4, h5, h6]
  have dt : ∀ a : Int, decide (a = a) = true := fun a => decide_eq_true rfl
  simp only [gEq_self, cond_true, dt, Bool.and_true]
  cases g (nx.tmod 8192) (ny.tmod 8192) (nz.tmod 8192) <;> rfl
theorem snd_scales {l m o : List Int} (hl : l.length ≤ 9223372036854775807) (hm : m.length ≤ 9223372036854775807) (ho : o.length ≤ 9223372036854775807) (haw : SndA1 Tryz.prog 14 [] (.v (.b true))) : SndA1 Tryz.prog 3 [intsP l, intsP m, intsP o] (.v (.b true)) := by
  have hc := snd_cons (l := l) (n := 1) (by omega) hm
  obtain ⟨c, hcs⟩ := l1 (cnsOf_len nrm m (nJ l 0) 1)
  have e : (consOf l m 1).map cp = [cp c] := by unfold consOf; rw [hcs]; rfl
  rw [e] at hc
  obtain ⟨g, v, hv, hg⟩ := val_ex l o c.kind c.link c.p.x c.p.y c.p.z c.lo c.hi
  have hval := ok_val (R := robP l) (B := boxP l o) (g := g) (vlo := fun x y z => bif g x y z then (dotV x y z v).1 else 0) (vhi := fun x y z => bif g x y z then (dotV x y z v).2 else 0) (fun nx ny nz => by
    have := hv nx ny nz
    unfold valR at this
    cases hq : g nx ny nz with
    | false => rw [hq] at this; exact this
    | true => rw [hq] at this; exact this)
  refine runK_sound (N := 60) tabOk mixed (OrL.ok (l := [(10, o_call [intsP l] (robP l)), (11, o_call [robP l, .n .i64 1, intsP m] (.l [cp c])), (12, o_call [robP l, intsP o] (boxP l o)), (13, o_val (robP l) (boxP l o) c.kind c.link c.p.x c.p.y c.p.z c.lo c.hi g (fun x y z => bif g x y z then (dotV x y z v).1 else 0) (fun x y z => bif g x y z then (dotV x y z v).2 else 0)), (14, o_call [] (.b true))]) ⟨ok_call (snd_robot hl), ok_call hc, ok_call (snd_box ho), hval, ok_call haw, trivial⟩) (sp_scales _ _ _ _ _ _ _ _ _ _ _ c.n.x c.n.y c.n.z _ _ _ _ _ fun x y z hx hy hz => ?_)
  obtain ⟨g1, g2⟩ := hg x y z hx hy hz
  rw [g1, g2]
  refine ⟨rfl, rfl, ?_⟩
  cases g x y z with
  | false => exact ⟨rfl, rfl, rfl, rfl⟩
  | true =>
    simp only [cond_true]
    unfold dotV
    rw [dot_neg hx hy hz, dot_dbl hx hy hz]
    have hb := dot_bnd (v0 := v.x.lo) (v1 := v.x.hi) (v2 := v.y.lo) (v3 := v.y.hi) (v4 := v.z.lo) (v5 := v.z.hi) hx hy hz
    dsimp only
    generalize (dot x y z v.x.lo v.x.hi v.y.lo v.y.hi v.z.lo v.z.hi).1 = p at *
    generalize (dot x y z v.x.lo v.x.hi v.y.lo v.y.hi v.z.lo v.z.hi).2 = q at *
    rw [i64_in (x := 0 - q) (by omega), i64_in (x := 0 - p) (by omega), i64_in (x := 2 * p) (by omega), i64_in (x := 2 * q) (by omega)]
    omega
end Go.Proofs.YtnlnbnjnapofmaaGreat.Ox

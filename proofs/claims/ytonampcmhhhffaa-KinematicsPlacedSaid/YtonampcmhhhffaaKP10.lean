/- Part 10 of the texts behind the last one: rules and contracts. No condition. -/
import Derived.Test.YtonampcmhhhffaaKP9
namespace Go.Proofs.Ytonampcmhhhffaa
open Go.Sx Go.RowKit
theorem bxs_length {l : List Int} {js : List J} : ∀ k, k ≤ js.length → (bxs l js k).1.length = k
  | 0, _ => rfl
  | k + 1, h => by
    have hk : js[k]? = some js[k] := List.getElem?_eq_getElem (by omega)
    have h2 := bxs_length (l := l) (js := js) k (by omega)
    simp only [bxs, hk, List.length_append, List.length_singleton, h2]
theorem madeBox {lv : Value} {l l2 : List Int} {aj am : Option Addr} {cj nm cm : Nat} (w : World) (hl : IntsAt w w.heap.size lv l2) (hS : SlcIs 12 aj ((jsOf l 0 (nJ l 0)).1.map jc) w) :
    Calls Try.prog 57 [.agg #[.slice aj (nJ l 0) cj, .slice am nm cm], lv].toArray w (RetsF (X := Option Addr × Nat) (fun _ => True) (fun x => .slice x.1 (nJ l 0) x.2) (fun x => SlcIs 2 x.1 ((bxs l2 (jsOf l 0 (nJ l 0)).1 (nJ l 0)).1.map ivc)) w) := by
  have h := mkBox lv l2 aj am cj nm cm (jsOf l 0 (nJ l 0)).1 (by rw [jsOf_len]; have := nJ_b l 0; omega) (jsOf_b l 0 _) w hl hS
  rw [jsOf_len] at h
  exact h
end Go.Proofs.Ytonampcmhhhffaa
namespace Go.Sx
open Go.RowKit
section
variable {P : Program} {n : Nat} {w0 : Base} {ops : Array Oper} {Q : Exit → Act → World → Prop} {S : Slots} {H : Heap}
variable {ty : TypeId} {pos : String} {af : Array Edge} {g : Option (Nat × Bool)} {rest : List Oper}
theorem doL_storeRowV {t : TypeId} {x y : Operand} {b e sz j : Nat} {ag : Bool} {rows : List (List Value)} {vs : List Value} {v : Value} (id : Nat) (hT : tyB P t ag sz = true) (hR : lookR w0.R id = some ((· = b), RowsF b sz e rows))
    (hx : ev S x = some (pAt (some ⟨b, 0, none⟩) (j * sz))) (hy : ev S y = some v) (hj : j < rows.length) (hc : v.cells = vs.toArray) (hv : Nat.beq vs.length sz = true) (h1 : vs.all Value.oneCell' = true)
    (hw : wantedS ops S ⟨none, .store t x y, ty, pos, af, g⟩ = some true) (hu : (updR w0.R id (· = b) (RowsF b sz e (rows.set j vs))).isSome = true)
    (next : ∀ R', updR w0.R id (· = b) (RowsF b sz e (rows.set j vs)) = some R' → DoL P n ⟨w0.w, R'⟩ ops Q rest S H) :
    DoL P n w0 ops Q (⟨none, .store t x y, ty, pos, af, g⟩ :: rest) S H := by
  intro a w f k
  unfold wpList
  rw [wanted_fits f hw, if_pos rfl]
  refine .inl ?_
  obtain ⟨R', hR'⟩ := Option.isSome_iff_exists.1 hu
  have hF : RowsF b sz e rows w := holds_r hR _ _ k
  have hvs := Nat.eq_of_beq_eq_true hv
  have hlen : j * sz + sz ≤ rows.flatten.length := by
    rw [rows_len rows hF.1]
    have := Nat.mul_le_mul_right sz (show j + 1 ≤ rows.length from hj)
    rw [Nat.add_mul] at this
    omega
  have hst := run_storeCells_at P b (0 + j * sz) e vs 0 rows.flatten.toArray w hF.2 (by simp; simp at hlen; omega) (fun u hu => List.all_eq_true.1 h1 u hu)
  have hx' : ev S x = some (.pointer (some ⟨b, 0 + j * sz, none⟩)) := hx
  have hrun : (execOp a.eval ⟨none, .store t x y, ty, pos, af, g⟩).run P w = .ok .skip (w.setRow b (rows.set j vs).flatten.toArray) := by
    rw [rows_set rows j vs hF.1 hj hvs]
    simp only [Nat.add_zero, Nat.zero_add, hvs] at hst
    have hx2 : ev S x = some (.pointer (some ⟨b, j * sz, none⟩)) := by rw [hx', Nat.zero_add]
    simp [execOp, f.ev hx2, f.ev hy, Instr.storeAt, Instr.sureAddr, storeVar, tyB_size hT, hc, hvs, hst]
  unfold Oper.wp
  rw [hrun]
  refine next R' hR' _ _ f (k.swap hR (GrowB.set b w _) (fun _ h => h) (rowsF_dep _ _ _ _) ⟨fun r hr => ?_, setRow_heap w b _ _ e _ hF.2⟩ hR')
  rcases List.mem_or_eq_of_mem_set hr with h | h
  · exact hF.1 r h
  · rw [h]; exact hvs
end
def vc (v : V3) : List Value := [.int .i64 v.x.lo, .int .i64 v.x.hi, .int .i64 v.y.lo, .int .i64 v.y.hi, .int .i64 v.z.lo, .int .i64 v.z.hi]
def plR (p : Po) (l : List Z3) : List V3 := l.map fun z => Po.app p (V3.of z)
def zV : List Value := List.replicate 6 (.int .i64 0)
def plF (ps : List V3) (m : Nat) : List (List Value) := ps.map vc ++ List.replicate m zV
theorem plF_set {ps : List V3} {m : Nat} (v : V3) : (plF ps (m + 1)).set ps.length (vc v) = plF (ps ++ [v]) m := by
  unfold plF
  rw [List.set_append_right _ _ (by simp)]
  simp [List.replicate_succ]
theorem plF_me {ps : List V3} {m : Nat} : (plF ps (m + 1))[ps.length]? = some zV := by
  unfold plF
  rw [List.getElem?_append_right (by simp)]
  simp
theorem plR_take {p : Po} {l : List Z3} {k : Nat} {z : Z3} (h : l[k]? = some z) : plR p (l.take (k + 1)) = plR p (l.take k) ++ [Po.app p (V3.of z)] := by
  unfold plR
  rw [List.take_add_one, h]
  simp
def ZB (z : Z3) : Prop := (-4194304 ≤ z.x ∧ z.x ≤ 4194304) ∧ (-4194304 ≤ z.y ∧ z.y ≤ 4194304) ∧ (-4194304 ≤ z.z ∧ z.z ≤ 4194304)
def SpOK (n : Nat) (s : Sp) : Prop := (-1 ≤ s.link ∧ s.link < n) ∧ (1 ≤ s.radius ∧ s.radius ≤ 1048576) ∧ (1 ≤ s.pts.length ∧ s.pts.length ≤ 8) ∧ ∀ z ∈ s.pts, ZB z
def spP (ps : List Po) (s : Sp) : Po := if s.link = -1 then Po.rest else ps.getD s.link.toNat Po.rest
def ptsP (ps : List Po) (ss : List Sp) : List (List V3) := ss.map fun s => plR (spP ps s) s.pts
def plc (v : List V3) (b : Nat) : List Value := [.slice (some ⟨b, 0, none⟩) v.length v.length]
def plRows : List (List V3) → List Nat → List (List Value)
  | v :: vs, b :: bs => plc v b :: plRows vs bs
  | _, _ => []
def PlF : List (List V3) → List Nat → World → Prop
  | v :: vs, b :: bs, w => SlcIs 6 (some ⟨b, 0, none⟩) (v.map vc) w ∧ PlF vs bs w
  | _, _, _ => True
theorem plRows_len : ∀ (vs : List (List V3)) (bs : List Nat), bs.length = vs.length → (plRows vs bs).length = vs.length
  | [], _, _ => by simp [plRows]
  | _ :: vs, _ :: bs, h => by simp [plRows, plRows_len vs bs (by simpa using h)]
  | _ :: _, [], h => by simp at h
theorem plRows_snoc : ∀ (vs : List (List V3)) (bs : List Nat) (v : List V3) (b : Nat), bs.length = vs.length → plRows (vs ++ [v]) (bs ++ [b]) = plRows vs bs ++ [plc v b]
  | [], [], v, b, _ => rfl
  | _ :: vs, _ :: bs, v, b, h => by simp [plRows, plRows_snoc vs bs v b (by simpa using h)]
  | [], _ :: _, _, _, h => by simp at h
  | _ :: _, [], _, _, h => by simp at h
theorem plRows_get : ∀ (vs : List (List V3)) (bs : List Nat) (i : Nat) (v : List V3) (b : Nat), vs[i]? = some v → bs[i]? = some b → (plRows vs bs)[i]? = some (plc v b)
  | x :: vs, c :: bs, 0, v, b, h1, h2 => by
    simp at h1 h2
    subst h1 h2
    rfl
  | x :: vs, c :: bs, i + 1, v, b, h1, h2 => plRows_get vs bs i v b (by simpa using h1) (by simpa using h2)
  | [], _, _, _, _, h, _ => by simp at h
  | _ :: _, [], _, _, _, _, h => by simp at h
theorem PlF_snoc : ∀ (vs : List (List V3)) (bs : List Nat) (v : List V3) (b : Nat) (w : World), bs.length = vs.length → PlF vs bs w → SlcIs 6 (some ⟨b, 0, none⟩) (v.map vc) w → PlF (vs ++ [v]) (bs ++ [b]) w
  | [], [], _, _, _, _, _, h => ⟨h, trivial⟩
  | _ :: vs, _ :: bs, v, b, w, h, h1, h2 => ⟨h1.1, PlF_snoc vs bs v b w (by simpa using h) h1.2 h2⟩
  | [], _ :: _, _, _, _, h, _, _ => by simp at h
  | _ :: _, [], _, _, _, h, _, _ => by simp at h
theorem PlF_un : ∀ (vs : List (List V3)) (bs : List Nat) (v : List V3) (b : Nat) (w : World), bs.length = vs.length → PlF (vs ++ [v]) (bs ++ [b]) w → PlF vs bs w ∧ SlcIs 6 (some ⟨b, 0, none⟩) (v.map vc) w
  | [], [], _, _, _, _, h => ⟨trivial, h.1⟩
  | _ :: vs, _ :: bs, v, b, w, h, h1 => by
    obtain ⟨p, q⟩ := PlF_un vs bs v b w (by simpa using h) h1.2
    exact ⟨⟨h1.1, p⟩, q⟩
  | [], _ :: _, _, _, _, h, _ => by simp at h
  | _ :: _, [], _, _, _, h, _ => by simp at h
theorem PlF_dep {vs : List (List V3)} {bs : List Nat} {v : List V3} {b : Nat} {D1 D2 : Nat → Prop} (h : bs.length = vs.length) (h1 : Depends D1 (SlcIs 6 (some ⟨b, 0, none⟩) (v.map vc))) (h2 : Depends D2 (PlF vs bs)) : Depends (fun q => D1 q ∨ D2 q) (PlF (vs ++ [v]) (bs ++ [b])) := fun w w' hq hF => by
  obtain ⟨p, q⟩ := PlF_un vs bs v b w h hF
  exact PlF_snoc vs bs v b w' h (h2 w w' (fun k hk => hq k (.inr hk)) p) (h1 w w' (fun k hk => hq k (.inl hk)) q)
theorem PlF_get : ∀ (vs : List (List V3)) (bs : List Nat) (i : Nat) (v : List V3) (b : Nat) (w : World), vs[i]? = some v → bs[i]? = some b → PlF vs bs w → SlcIs 6 (some ⟨b, 0, none⟩) (v.map vc) w
  | x :: vs, c :: bs, 0, v, b, w, h1, h2, h => by
    simp at h1 h2
    subst h1 h2
    exact h.1
  | x :: vs, c :: bs, i + 1, v, b, w, h1, h2, h => PlF_get vs bs i v b w (by simpa using h1) (by simpa using h2) h.2
  | [], _, _, _, _, _, h, _, _ => by simp at h
  | _ :: _, [], _, _, _, _, _, h, _ => by simp at h
theorem PtsF_get : ∀ (ss : List Sp) (ds : List Ad) (i : Nat) (s : Sp) (d : Ad) (w : World), ss[i]? = some s → ds[i]? = some d → PtsF ss ds w → SlcIs 3 d.1 (s.pts.map z3c) w
  | x :: ss, c :: ds, 0, s, d, w, h1, h2, h => by
    simp at h1 h2
    subst h1 h2
    exact h.1
  | x :: ss, c :: ds, i + 1, s, d, w, h1, h2, h => PtsF_get ss ds i s d w (by simpa using h1) (by simpa using h2) h.2
  | [], _, _, _, _, _, h, _, _ => by simp at h
  | _ :: _, [], _, _, _, _, _, h, _ => by simp at h
theorem spRows_get : ∀ (ss : List Sp) (ds : List Ad) (i : Nat) (s : Sp) (d : Ad), ss[i]? = some s → ds[i]? = some d → (spRows ss ds)[i]? = some (spc s d)
  | x :: ss, c :: ds, 0, s, d, h1, h2 => by
    simp at h1 h2
    subst h1 h2
    rfl
  | x :: ss, c :: ds, i + 1, s, d, h1, h2 => spRows_get ss ds i s d (by simpa using h1) (by simpa using h2)
  | [], _, _, _, _, h, _ => by simp at h
  | _ :: _, [], _, _, _, _, h => by simp at h
theorem PtsF_grow {w w' : World} : ∀ (ss : List Sp) (ds : List Ad), PtsF ss ds w → Grow w w' → PtsF ss ds w'
  | [], _, _, _ => trivial
  | _ :: _, [], _, _ => trivial
  | s :: ss, d :: ds, h, g => ⟨slc_grow h.1 g, PtsF_grow ss ds h.2 g⟩
def lsR (vs : List (List V3)) (bs : List Nat) (m : Nat) : List (List Value) := plRows vs bs ++ List.replicate m [.slice none 0 0]
theorem lsR_set {vs : List (List V3)} {bs : List Nat} {m : Nat} (v : List V3) (b : Nat) (h : bs.length = vs.length) : (lsR vs bs (m + 1)).set vs.length (plc v b) = lsR (vs ++ [v]) (bs ++ [b]) m := by
  unfold lsR
  rw [plRows_snoc vs bs v b h, List.set_append_right _ _ (by rw [plRows_len vs bs h]; exact Nat.le_refl _), plRows_len vs bs h]
  simp [List.replicate_succ]
theorem lsR_me {vs : List (List V3)} {bs : List Nat} {m : Nat} (h : bs.length = vs.length) : (lsR vs bs (m + 1))[vs.length]? = some [.slice none 0 0] := by
  unfold lsR
  rw [List.getElem?_append_right (by rw [plRows_len vs bs h]; exact Nat.le_refl _), plRows_len vs bs h]
  simp
theorem ptsP_take {ps : List Po} {ss : List Sp} {k : Nat} {s : Sp} (h : ss[k]? = some s) : ptsP ps (ss.take (k + 1)) = ptsP ps (ss.take k) ++ [plR (spP ps s) s.pts] := by
  unfold ptsP
  rw [List.take_add_one, h]
  simp
end Go.Sx
namespace Go.Proofs.Ytonampcmhhhffaa
open Go.Sx
theorem fa116_1 : fieldB Try.prog 116 1 1 = true := by kernel_rfl
theorem fa116_2 : fieldB Try.prog 116 2 2 = true := by kernel_rfl
theorem ty113 : tyB Try.prog 113 false 1 = true := by kernel_rfl
theorem fa116_0 : fieldB Try.prog 116 0 0 = true := by kernel_rfl
theorem en139 : Enters Try.prog 139 := enters_of Try.func139 (by kernel_rfl) (by kernel_rfl)
theorem ty116 : tyB Try.prog 116 true 3 = true := by kernel_rfl
theorem en138 : Enters Try.prog 138 := enters_of Try.func138 (by kernel_rfl) (by kernel_rfl)
theorem ty118 : tyB Try.prog 118 true 2 = true := by kernel_rfl
theorem fa118_0 : fieldB Try.prog 118 0 0 = true := by kernel_rfl
theorem fa118_1 : fieldB Try.prog 118 1 1 = true := by kernel_rfl
theorem en140 : Enters Try.prog 140 := enters_of Try.func140 (by kernel_rfl) (by kernel_rfl)
theorem app101 : appB Try.prog 101 34 6 48 = true := by kernel_rfl
theorem en50 : Enters Try.prog 50 := enters_of Try.func50 (by kernel_rfl) (by kernel_rfl)
theorem sIsLink (i : Int) (aj am asp ak : Option Addr) (cj nm cm csp ck n ns nk : Nat) (hi : -1 ≤ i ∧ i < n) (w : World) : Calls Try.prog 139 [.agg #[.slice aj n cj, .slice am nm cm, .slice asp ns csp, .slice ak nk ck], .int .i64 i].toArray w (Rets (vB (true)) (w)) := by
  refine calls_of_doC (n := 15) Try.func139 rfl rfl rfl ?_
  refine doC_seq ?_
  refine doC_region ?_
  refine doL_box 2 rfl rfl rfl rfl ?_; intro b2
  refine doL_v (opV_assign rfl) rfl rfl rfl ?_
  refine doL_nil ?_
  refine post_then ?_
  refine doC_seq ?_
  refine doC_region ?_
  refine doL_v (opV_move rfl) rfl rfl rfl ?_
  refine doL_v (opV_leq rfl rfl) rfl rfl rfl ?_
  refine doL_v (opV_move rfl) rfl rfl rfl ?_
  refine doL_true 7 rfl (decide_eq_true (by omega)) ?_
  refine doL_v (opV_move rfl) rfl rfl rfl ?_
  refine doL_v (opV_fieldAddr fa78_0 rfl) rfl rfl rfl ?_
  refine doL_v (opV_fieldAddr fa74_0 rfl) rfl rfl rfl ?_
  refine doL_v (opV_load1 2 ty71 rfl rfl rfl) rfl rfl rfl ?_
  refine doL_v (opV_len_slice sl71 rfl) rfl rfl rfl ?_
  refine doL_v (opV_lss rfl rfl) rfl rfl rfl ?_
  refine doL_v (opV_pick_t rfl rfl rfl rfl) rfl rfl rfl ?_
  refine doL_v (opV_assign rfl) rfl rfl rfl ?_
  refine doL_nil ?_
  refine post_then ?_
  refine doC_ret ?_
  refine post_rets (rs := [.tmp 4]) rfl (resC (resIs_tmp rfl) (resN)) (congrArg (vB) (?_ : _ = true))
  exact decide_eq_true (by omega)
theorem shCheck  (lk rad : Int) (ap : Option Addr) (np cp : Nat) (pts : List Z3) (hnp : pts.length = np) (hr : 1 ≤ rad ∧ rad ≤ 1048576) (hl : 1 ≤ np ∧ np ≤ 8) (hb : ∀ z ∈ pts, ZB z) (w : World) (hT : SlcIs 3 ap (pts.map z3c) w) : Calls Try.prog 140 [.agg #[.int .i64 lk, .int .i64 rad, .slice ap np cp]].toArray w (Rets (vB (true)) (w)) := by
  refine calls_of_doC (n := 46) Try.func140 rfl rfl rfl ?_
  refine doC_seq ?_
  refine doC_region ?_
  refine doL_box 1 rfl rfl rfl rfl ?_; intro b1
  refine doL_v (opV_assign rfl) rfl rfl rfl ?_
  refine doL_nil ?_
  refine post_then ?_
  refine doC_seq ?_
  refine doC_seq ?_
  refine doC_region ?_
  refine doL_v (opV_fieldAddr fa116_1 rfl) rfl rfl rfl ?_
  refine doL_v (opV_load1 1 ty2 rfl rfl rfl) rfl rfl rfl ?_
  refine doL_v (opV_lss rfl rfl) rfl rfl rfl ?_
  refine doL_v (opV_move rfl) rfl rfl rfl ?_
  refine doL_false 10 rfl (by rw [decide_eq_false_iff_not]; omega) ?_
  refine doL_v (opV_fieldAddr fa116_1 rfl) rfl rfl rfl ?_
  refine doL_v (opV_load1 1 ty2 rfl rfl rfl) rfl rfl rfl ?_
  refine doL_v (opV_gtr rfl rfl) rfl rfl rfl ?_
  refine doL_v (opV_pick_f rfl rfl rfl rfl) rfl rfl rfl ?_
  refine doL_v (opV_move rfl) rfl rfl rfl ?_
  refine doL_false 15 rfl (by rw [decide_eq_false_iff_not]; omega) ?_
  refine doL_v (opV_fieldAddr fa116_2 rfl) rfl rfl rfl ?_
  refine doL_v (opV_load1 1 ty113 rfl rfl rfl) rfl rfl rfl ?_
  refine doL_v (opV_len_slice sl113 rfl) rfl rfl rfl ?_
  refine doL_v (opV_lss rfl rfl) rfl rfl rfl ?_
  refine doL_v (opV_pick_f rfl rfl rfl rfl) rfl rfl rfl ?_
  refine doL_v (opV_move rfl) rfl rfl rfl ?_
  refine doL_false 21 rfl (by rw [decide_eq_false_iff_not]; omega) ?_
  refine doL_v (opV_fieldAddr fa116_2 rfl) rfl rfl rfl ?_
  refine doL_v (opV_load1 1 ty113 rfl rfl rfl) rfl rfl rfl ?_
  refine doL_v (opV_len_slice sl113 rfl) rfl rfl rfl ?_
  refine doL_v (opV_gtr rfl rfl) rfl rfl rfl ?_
  refine doL_v (opV_pick_f rfl rfl rfl rfl) rfl rfl rfl ?_
  refine doL_nil ?_
  refine post_then ?_
  refine doC_cond_f rfl (by rw [decide_eq_false_iff_not]; omega) ?_
  refine doC_skip ?_
  refine post_then ?_
  refine doC_seq ?_
  refine doC_seq ?_
  refine doC_region ?_
  refine doL_v (opV_fieldAddr fa116_2 rfl) rfl rfl rfl ?_
  refine doL_v (opV_load1 1 ty113 rfl rfl rfl) rfl rfl rfl ?_
  refine doL_v (opV_len_slice sl113 rfl) rfl rfl rfl ?_
  refine doL_v (opV_move rfl) rfl rfl rfl ?_
  refine doL_nil ?_
  refine post_then ?_
  refine doC_block ?_
  refine doC_loopK [28, 29] [] (α := Nat) (fun x => np - x) (fun x => x ≤ np) (fun _ => ⟨w, []⟩) (fun x => [(30, .int .i64 (x : Int))]) (fun _ => []) 0 rfl rfl ?_ ?_ ?_ ?_ rfl ?_
  ·
    exact Nat.zero_le _
  ·
    exact rfl
  ·
    repeat' first | exact trivial | exact True.intro | refine ⟨rfl, ?_⟩
  ·
    repeat' first | exact trivial | exact True.intro | refine ⟨rfl, ?_⟩
  rintro k hk
  try dsimp only at hk ⊢
  refine doC_seq ?_
  refine doC_region ?_
  refine doL_v (opV_lss rfl rfl) rfl rfl rfl ?_
  refine doL_nil ?_
  refine post_then ?_
  refine doC_seq ?_
  refine doC_cond rfl (fun hc31 => ?_) (fun hc31 => ?_)
  ·
    have h2 : k < np := by have := of_decide_eq_true hc31; omega
    obtain ⟨z, hzk⟩ : ∃ z, pts[k]? = some z := ⟨_, List.getElem?_eq_getElem (by omega)⟩
    have hz : (pts.map z3c)[k]? = some (z3c z) := by rw [List.getElem?_map, hzk]; rfl
    obtain ⟨z0, z1, z2⟩ := hb z (List.mem_of_getElem? hzk)
    refine doC_skip ?_
    refine post_then ?_
    refine doC_seq ?_
    refine doC_block ?_
    refine doC_seq ?_
    refine doC_region ?_
    refine doL_v (opV_indexS (e := 38) (holds_base hT) (by kernel_rfl) rfl rfl rfl hz h2) rfl rfl rfl ?_
    refine doL_v (opV_loadSA (vs := z3c z) k 0 (holds_base hT) hz ty38 rfl rfl) rfl rfl rfl ?_
    refine doL_alloc 4 ze38 rfl rfl rfl ?_; intro b4
    refine doL_store 4 ty38 rfl rfl rfl rfl rfl rfl rfl rfl ?_
    refine doL_nil ?_
    refine post_then ?_
    refine doC_seq ?_
    refine doC_region ?_
    refine doL_v (opV_loadA 4 ty38 rfl rfl rfl) rfl rfl rfl ?_
    refine doL_v (opV_move rfl) rfl rfl rfl ?_
    refine doL_nil ?_
    refine post_then ?_
    refine doC_block ?_
    refine doC_rounds 4 ?_
    refine doR_succ ?_
    refine doC_seq ?_
    refine doC_region ?_
    refine doL_v (opV_lss rfl rfl) rfl rfl rfl ?_
    refine doL_nil ?_
    refine post_then ?_
    refine doC_seq ?_
    refine doC_cond_t rfl (by decide) ?_
    refine doC_skip ?_
    refine post_then ?_
    refine doC_seq ?_
    refine doC_block ?_
    refine doC_seq ?_
    refine doC_region ?_
    refine doL_v (opV_index rfl rfl (ix3_0)) rfl rfl rfl ?_
    refine doL_v (opV_assign rfl) rfl rfl rfl ?_
    refine doL_nil ?_
    refine post_then ?_
    refine doC_seq ?_
    refine doC_region ?_
    refine doL_v (opV_move rfl) rfl rfl rfl ?_
    refine doL_v (opV_lss rfl rfl) rfl rfl rfl ?_
    refine doL_v (opV_move rfl) rfl rfl rfl ?_
    refine doL_false 40 rfl (by rw [decide_eq_false_iff_not]; omega) ?_
    refine doL_v (opV_move rfl) rfl rfl rfl ?_
    refine doL_v (opV_gtr rfl rfl) rfl rfl rfl ?_
    refine doL_v (opV_pick_f rfl rfl rfl rfl) rfl rfl rfl ?_
    refine doL_nil ?_
    refine post_then ?_
    refine doC_cond_f rfl (by rw [decide_eq_false_iff_not]; omega) ?_
    refine doC_skip ?_
    refine post_block_normal ?_
    refine post_then ?_
    refine doC_region ?_
    refine doL_v (opV_add rfl rfl (by first | exact i64_in ⟨by omega, by omega⟩ | rfl)) rfl rfl rfl ?_
    refine doL_v (opV_move rfl) rfl rfl rfl ?_
    refine doL_nil ?_
    refine post_rounds ?_
    refine doR_succ ?_
    refine doC_seq ?_
    refine doC_region ?_
    refine doL_v (opV_lss rfl rfl) rfl rfl rfl ?_
    refine doL_nil ?_
    refine post_then ?_
    refine doC_seq ?_
    refine doC_cond_t rfl (by decide) ?_
    refine doC_skip ?_
    refine post_then ?_
    refine doC_seq ?_
    refine doC_block ?_
    refine doC_seq ?_
    refine doC_region ?_
    refine doL_v (opV_index rfl rfl (ix3_1)) rfl rfl rfl ?_
    refine doL_v (opV_assign rfl) rfl rfl rfl ?_
    refine doL_nil ?_
    refine post_then ?_
    refine doC_seq ?_
    refine doC_region ?_
    refine doL_v (opV_move rfl) rfl rfl rfl ?_
    refine doL_v (opV_lss rfl rfl) rfl rfl rfl ?_
    refine doL_v (opV_move rfl) rfl rfl rfl ?_
    refine doL_false 40 rfl (by rw [decide_eq_false_iff_not]; omega) ?_
    refine doL_v (opV_move rfl) rfl rfl rfl ?_
    refine doL_v (opV_gtr rfl rfl) rfl rfl rfl ?_
    refine doL_v (opV_pick_f rfl rfl rfl rfl) rfl rfl rfl ?_
    refine doL_nil ?_
    refine post_then ?_
    refine doC_cond_f rfl (by rw [decide_eq_false_iff_not]; omega) ?_
    refine doC_skip ?_
    refine post_block_normal ?_
    refine post_then ?_
    refine doC_region ?_
    refine doL_v (opV_add rfl rfl (by first | exact i64_in ⟨by omega, by omega⟩ | rfl)) rfl rfl rfl ?_
    refine doL_v (opV_move rfl) rfl rfl rfl ?_
    refine doL_nil ?_
    refine post_rounds ?_
    refine doR_succ ?_
    refine doC_seq ?_
    refine doC_region ?_
    refine doL_v (opV_lss rfl rfl) rfl rfl rfl ?_
    refine doL_nil ?_
    refine post_then ?_
    refine doC_seq ?_
    refine doC_cond_t rfl (by decide) ?_
    refine doC_skip ?_
    refine post_then ?_
    refine doC_seq ?_
    refine doC_block ?_
    refine doC_seq ?_
    refine doC_region ?_
    refine doL_v (opV_index rfl rfl (ix3_2)) rfl rfl rfl ?_
    refine doL_v (opV_assign rfl) rfl rfl rfl ?_
    refine doL_nil ?_
    refine post_then ?_
    refine doC_seq ?_
    refine doC_region ?_
    refine doL_v (opV_move rfl) rfl rfl rfl ?_
    refine doL_v (opV_lss rfl rfl) rfl rfl rfl ?_
    refine doL_v (opV_move rfl) rfl rfl rfl ?_
    refine doL_false 40 rfl (by rw [decide_eq_false_iff_not]; omega) ?_
    refine doL_v (opV_move rfl) rfl rfl rfl ?_
    refine doL_v (opV_gtr rfl rfl) rfl rfl rfl ?_
    refine doL_v (opV_pick_f rfl rfl rfl rfl) rfl rfl rfl ?_
    refine doL_nil ?_
    refine post_then ?_
    refine doC_cond_f rfl (by rw [decide_eq_false_iff_not]; omega) ?_
    refine doC_skip ?_
    refine post_block_normal ?_
    refine post_then ?_
    refine doC_region ?_
    refine doL_v (opV_add rfl rfl (by first | exact i64_in ⟨by omega, by omega⟩ | rfl)) rfl rfl rfl ?_
    refine doL_v (opV_move rfl) rfl rfl rfl ?_
    refine doL_nil ?_
    refine post_rounds ?_
    refine doR_succ ?_
    refine doC_seq ?_
    refine doC_region ?_
    refine doL_v (opV_lss rfl rfl) rfl rfl rfl ?_
    refine doL_nil ?_
    refine post_then ?_
    refine doC_seq ?_
    refine doC_cond_f rfl (by decide) ?_
    refine doC_exit ?_
    refine post_then_exit ?_
    refine post_then_exit ?_
    refine post_block_exit ?_
    refine post_block_normal ?_
    refine post_then ?_
    refine doC_region ?_
    refine doL_v (opV_add rfl rfl (inc_nat (by omega))) rfl rfl rfl ?_
    refine doL_v (opV_move rfl) rfl rfl rfl ?_
    refine doL_nil ?_
    refine post_again (k + 1) (by show k + 1 ≤ np; omega) (by show np - (k + 1) < np - k; omega) rfl ?_ ?_ rfl
    repeat' first | exact trivial | exact True.intro | refine ⟨rfl, ?_⟩
  ·
    refine doC_exit ?_
    refine post_then_exit ?_
    refine post_then_exit ?_
    refine post_block_exit ?_
    refine post_then ?_
    refine doC_seq ?_
    refine doC_region ?_
    refine doL_v (opV_assign rfl) rfl rfl rfl ?_
    refine doL_nil ?_
    refine post_then ?_
    refine doC_ret ?_
    refine post_rets (rs := [.tmp 2]) rfl (resC (resIs_tmp rfl) (resN)) (congrArg (vB) (?_ : _ = true))
    rfl
theorem sCheckShape  (aj am asp ak : Option Addr) (cj nm cm csp ck n ns nk : Nat) (lk rad : Int) (ap : Option Addr) (np cp : Nat) (pts : List Z3) (hlk : -1 ≤ lk ∧ lk < n) (hnp : pts.length = np) (hr : 1 ≤ rad ∧ rad ≤ 1048576) (hl : 1 ≤ np ∧ np ≤ 8) (hb : ∀ z ∈ pts, ZB z) (w : World) (hT : SlcIs 3 ap (pts.map z3c) w) : Calls Try.prog 138 [.agg #[.slice aj n cj, .slice am nm cm, .slice asp ns csp, .slice ak nk ck], .agg #[.int .i64 lk, .int .i64 rad, .slice ap np cp]].toArray w (Rets (vI ((0 : Int))) (w)) := by
  refine calls_of_doC (n := 55) Try.func138 rfl rfl rfl ?_
  refine doC_seq ?_
  refine doC_region ?_
  refine doL_box 2 rfl rfl rfl rfl ?_; intro b2
  refine doL_box 3 rfl rfl rfl rfl ?_; intro b3
  refine doL_v (opV_assign rfl) rfl rfl rfl ?_
  refine doL_nil ?_
  refine post_then ?_
  refine doC_seq ?_
  refine doC_region ?_
  refine doL_v (opV_fieldAddr fa116_2 rfl) rfl rfl rfl ?_
  refine doL_v (opV_load1 3 ty113 rfl rfl rfl) rfl rfl rfl ?_
  refine doL_v (opV_len_slice sl113 rfl) rfl rfl rfl ?_
  refine doL_v (opV_assign rfl) rfl rfl rfl ?_
  refine doL_nil ?_
  refine post_then ?_
  refine doC_seq ?_
  refine doC_seq ?_
  refine doC_region ?_
  refine doL_v (opV_loadA 2 ty78 rfl rfl rfl) rfl rfl rfl ?_
  refine doL_v (opV_fieldAddr fa116_0 rfl) rfl rfl rfl ?_
  refine doL_v (opV_load1 3 ty3 rfl rfl rfl) rfl rfl rfl ?_
  refine doL_vg (F := vB) (opV_call en139 rfl (fun w _ => sIsLink _ _ _ _ _ _ _ _ _ _ _ _ _ hlk w)) rfl rfl rfl ?_; intro r16 hr16
  refine doL_v (opV_not rfl) rfl rfl rfl ?_
  refine doL_v (opV_move rfl) rfl rfl rfl ?_
  refine doL_false 18 rfl (by rw [hr16]; rfl) ?_
  refine doL_v (opV_fieldAddr fa116_1 rfl) rfl rfl rfl ?_
  refine doL_v (opV_load1 3 ty2 rfl rfl rfl) rfl rfl rfl ?_
  refine doL_v (opV_lss rfl rfl) rfl rfl rfl ?_
  refine doL_v (opV_pick_f rfl rfl rfl rfl) rfl rfl rfl ?_
  refine doL_v (opV_move rfl) rfl rfl rfl ?_
  refine doL_false 23 rfl (by rw [decide_eq_false_iff_not]; omega) ?_
  refine doL_v (opV_fieldAddr fa116_1 rfl) rfl rfl rfl ?_
  refine doL_v (opV_load1 3 ty2 rfl rfl rfl) rfl rfl rfl ?_
  refine doL_v (opV_gtr rfl rfl) rfl rfl rfl ?_
  refine doL_v (opV_pick_f rfl rfl rfl rfl) rfl rfl rfl ?_
  refine doL_v (opV_move rfl) rfl rfl rfl ?_
  refine doL_false 28 rfl (by rw [decide_eq_false_iff_not]; omega) ?_
  refine doL_v (opV_move rfl) rfl rfl rfl ?_
  refine doL_v (opV_lss rfl rfl) rfl rfl rfl ?_
  refine doL_v (opV_pick_f rfl rfl rfl rfl) rfl rfl rfl ?_
  refine doL_v (opV_move rfl) rfl rfl rfl ?_
  refine doL_false 32 rfl (by rw [decide_eq_false_iff_not]; omega) ?_
  refine doL_v (opV_move rfl) rfl rfl rfl ?_
  refine doL_v (opV_gtr rfl rfl) rfl rfl rfl ?_
  refine doL_v (opV_pick_f rfl rfl rfl rfl) rfl rfl rfl ?_
  refine doL_nil ?_
  refine post_then ?_
  refine doC_cond_f rfl (by rw [decide_eq_false_iff_not]; omega) ?_
  refine doC_skip ?_
  refine post_then ?_
  refine doC_seq ?_
  refine doC_seq ?_
  refine doC_region ?_
  refine doL_v (opV_fieldAddr fa116_2 rfl) rfl rfl rfl ?_
  refine doL_v (opV_load1 3 ty113 rfl rfl rfl) rfl rfl rfl ?_
  refine doL_v (opV_len_slice sl113 rfl) rfl rfl rfl ?_
  refine doL_v (opV_move rfl) rfl rfl rfl ?_
  refine doL_nil ?_
  refine post_then ?_
  refine doC_block ?_
  refine doC_loopK [37, 38] [] (α := Nat) (fun x => np - x) (fun x => x ≤ np) (fun _ => ⟨w, []⟩) (fun x => [(39, .int .i64 (x : Int))]) (fun _ => []) 0 rfl rfl ?_ ?_ ?_ ?_ rfl ?_
  ·
    exact Nat.zero_le _
  ·
    exact rfl
  ·
    repeat' first | exact trivial | exact True.intro | refine ⟨rfl, ?_⟩
  ·
    repeat' first | exact trivial | exact True.intro | refine ⟨rfl, ?_⟩
  rintro k hk
  try dsimp only at hk ⊢
  refine doC_seq ?_
  refine doC_region ?_
  refine doL_v (opV_lss rfl rfl) rfl rfl rfl ?_
  refine doL_nil ?_
  refine post_then ?_
  refine doC_seq ?_
  refine doC_cond rfl (fun hc40 => ?_) (fun hc40 => ?_)
  ·
    have h2 : k < np := by have := of_decide_eq_true hc40; omega
    obtain ⟨z, hzk⟩ : ∃ z, pts[k]? = some z := ⟨_, List.getElem?_eq_getElem (by omega)⟩
    have hz : (pts.map z3c)[k]? = some (z3c z) := by rw [List.getElem?_map, hzk]; rfl
    obtain ⟨z0, z1, z2⟩ := hb z (List.mem_of_getElem? hzk)
    refine doC_skip ?_
    refine post_then ?_
    refine doC_seq ?_
    refine doC_block ?_
    refine doC_seq ?_
    refine doC_region ?_
    refine doL_v (opV_indexS (e := 38) (holds_base hT) (by kernel_rfl) rfl rfl rfl hz h2) rfl rfl rfl ?_
    refine doL_v (opV_loadSA (vs := z3c z) k 0 (holds_base hT) hz ty38 rfl rfl) rfl rfl rfl ?_
    refine doL_alloc 7 ze38 rfl rfl rfl ?_; intro b7
    refine doL_store 7 ty38 rfl rfl rfl rfl rfl rfl rfl rfl ?_
    refine doL_nil ?_
    refine post_then ?_
    refine doC_seq ?_
    refine doC_region ?_
    refine doL_v (opV_loadA 7 ty38 rfl rfl rfl) rfl rfl rfl ?_
    refine doL_v (opV_move rfl) rfl rfl rfl ?_
    refine doL_nil ?_
    refine post_then ?_
    refine doC_block ?_
    refine doC_rounds 4 ?_
    refine doR_succ ?_
    refine doC_seq ?_
    refine doC_region ?_
    refine doL_v (opV_lss rfl rfl) rfl rfl rfl ?_
    refine doL_nil ?_
    refine post_then ?_
    refine doC_seq ?_
    refine doC_cond_t rfl (by decide) ?_
    refine doC_skip ?_
    refine post_then ?_
    refine doC_seq ?_
    refine doC_block ?_
    refine doC_seq ?_
    refine doC_region ?_
    refine doL_v (opV_index rfl rfl (ix3_0)) rfl rfl rfl ?_
    refine doL_v (opV_assign rfl) rfl rfl rfl ?_
    refine doL_nil ?_
    refine post_then ?_
    refine doC_seq ?_
    refine doC_region ?_
    refine doL_v (opV_move rfl) rfl rfl rfl ?_
    refine doL_v (opV_lss rfl rfl) rfl rfl rfl ?_
    refine doL_v (opV_move rfl) rfl rfl rfl ?_
    refine doL_false 49 rfl (by rw [decide_eq_false_iff_not]; omega) ?_
    refine doL_v (opV_move rfl) rfl rfl rfl ?_
    refine doL_v (opV_gtr rfl rfl) rfl rfl rfl ?_
    refine doL_v (opV_pick_f rfl rfl rfl rfl) rfl rfl rfl ?_
    refine doL_nil ?_
    refine post_then ?_
    refine doC_cond_f rfl (by rw [decide_eq_false_iff_not]; omega) ?_
    refine doC_skip ?_
    refine post_block_normal ?_
    refine post_then ?_
    refine doC_region ?_
    refine doL_v (opV_add rfl rfl (by first | exact i64_in ⟨by omega, by omega⟩ | rfl)) rfl rfl rfl ?_
    refine doL_v (opV_move rfl) rfl rfl rfl ?_
    refine doL_nil ?_
    refine post_rounds ?_
    refine doR_succ ?_
    refine doC_seq ?_
    refine doC_region ?_
    refine doL_v (opV_lss rfl rfl) rfl rfl rfl ?_
    refine doL_nil ?_
    refine post_then ?_
    refine doC_seq ?_
    refine doC_cond_t rfl (by decide) ?_
    refine doC_skip ?_
    refine post_then ?_
    refine doC_seq ?_
    refine doC_block ?_
    refine doC_seq ?_
    refine doC_region ?_
    refine doL_v (opV_index rfl rfl (ix3_1)) rfl rfl rfl ?_
    refine doL_v (opV_assign rfl) rfl rfl rfl ?_
    refine doL_nil ?_
    refine post_then ?_
    refine doC_seq ?_
    refine doC_region ?_
    refine doL_v (opV_move rfl) rfl rfl rfl ?_
    refine doL_v (opV_lss rfl rfl) rfl rfl rfl ?_
    refine doL_v (opV_move rfl) rfl rfl rfl ?_
    refine doL_false 49 rfl (by rw [decide_eq_false_iff_not]; omega) ?_
    refine doL_v (opV_move rfl) rfl rfl rfl ?_
    refine doL_v (opV_gtr rfl rfl) rfl rfl rfl ?_
    refine doL_v (opV_pick_f rfl rfl rfl rfl) rfl rfl rfl ?_
    refine doL_nil ?_
    refine post_then ?_
    refine doC_cond_f rfl (by rw [decide_eq_false_iff_not]; omega) ?_
    refine doC_skip ?_
    refine post_block_normal ?_
    refine post_then ?_
    refine doC_region ?_
    refine doL_v (opV_add rfl rfl (by first | exact i64_in ⟨by omega, by omega⟩ | rfl)) rfl rfl rfl ?_
    refine doL_v (opV_move rfl) rfl rfl rfl ?_
    refine doL_nil ?_
    refine post_rounds ?_
    refine doR_succ ?_
    refine doC_seq ?_
    refine doC_region ?_
    refine doL_v (opV_lss rfl rfl) rfl rfl rfl ?_
    refine doL_nil ?_
    refine post_then ?_
    refine doC_seq ?_
    refine doC_cond_t rfl (by decide) ?_
    refine doC_skip ?_
    refine post_then ?_
    refine doC_seq ?_
    refine doC_block ?_
    refine doC_seq ?_
    refine doC_region ?_
    refine doL_v (opV_index rfl rfl (ix3_2)) rfl rfl rfl ?_
    refine doL_v (opV_assign rfl) rfl rfl rfl ?_
    refine doL_nil ?_
    refine post_then ?_
    refine doC_seq ?_
    refine doC_region ?_
    refine doL_v (opV_move rfl) rfl rfl rfl ?_
    refine doL_v (opV_lss rfl rfl) rfl rfl rfl ?_
    refine doL_v (opV_move rfl) rfl rfl rfl ?_
    refine doL_false 49 rfl (by rw [decide_eq_false_iff_not]; omega) ?_
    refine doL_v (opV_move rfl) rfl rfl rfl ?_
    refine doL_v (opV_gtr rfl rfl) rfl rfl rfl ?_
    refine doL_v (opV_pick_f rfl rfl rfl rfl) rfl rfl rfl ?_
    refine doL_nil ?_
    refine post_then ?_
    refine doC_cond_f rfl (by rw [decide_eq_false_iff_not]; omega) ?_
    refine doC_skip ?_
    refine post_block_normal ?_
    refine post_then ?_
    refine doC_region ?_
    refine doL_v (opV_add rfl rfl (by first | exact i64_in ⟨by omega, by omega⟩ | rfl)) rfl rfl rfl ?_
    refine doL_v (opV_move rfl) rfl rfl rfl ?_
    refine doL_nil ?_
    refine post_rounds ?_
    refine doR_succ ?_
    refine doC_seq ?_
    refine doC_region ?_
    refine doL_v (opV_lss rfl rfl) rfl rfl rfl ?_
    refine doL_nil ?_
    refine post_then ?_
    refine doC_seq ?_
    refine doC_cond_f rfl (by decide) ?_
    refine doC_exit ?_
    refine post_then_exit ?_
    refine post_then_exit ?_
    refine post_block_exit ?_
    refine post_block_normal ?_
    refine post_then ?_
    refine doC_region ?_
    refine doL_v (opV_add rfl rfl (inc_nat (by omega))) rfl rfl rfl ?_
    refine doL_v (opV_move rfl) rfl rfl rfl ?_
    refine doL_nil ?_
    refine post_again (k + 1) (by show k + 1 ≤ np; omega) (by show np - (k + 1) < np - k; omega) rfl ?_ ?_ rfl
    repeat' first | exact trivial | exact True.intro | refine ⟨rfl, ?_⟩
  ·
    refine doC_exit ?_
    refine post_then_exit ?_
    refine post_then_exit ?_
    refine post_block_exit ?_
    refine post_then ?_
    refine doC_seq ?_
    refine doC_region ?_
    refine doL_v (opV_assign rfl) rfl rfl rfl ?_
    refine doL_nil ?_
    refine post_then ?_
    refine doC_ret ?_
    refine post_rets (rs := [.tmp 4]) rfl (resC (resIs_tmp rfl) (resN)) (congrArg (vI) (?_ : _ = (0 : Int)))
    rfl
theorem sCheck  (aj am asp ak : Option Addr) (cj nm cm csp ck n ns nk : Nat) (js : List J) (l : List Ms) (ss : List Sp) (ds : List Ad) (rk : List (List Value)) (hn : 1 ≤ n ∧ n ≤ 10) (hm : nm ≤ 32) (hjn : js.length = n) (hln : l.length = nm) (hsn : ss.length = ns) (hdn : ds.length = ns) (hns : ns ≤ 24) (hnk : nk ≤ 64) (hrk : rk.length = nk) (hJ : ∀ (i : Nat) (j : J), js[i]? = some j → JOK js i j) (hv : ∀ m ∈ l, MB n m) (hsp : ∀ s ∈ ss, SpOK n s) (hk2 : ∀ r ∈ rk, ∃ a b : Int, r = [.int .i64 a, .int .i64 b] ∧ (-1 ≤ a ∧ a < n) ∧ (-1 ≤ b ∧ b < n)) (w : World) (hS : SlcIs 12 aj (js.map jc) w) (hM : SlcIs 5 am (l.map mc) w) (hSp : SlcIs 3 asp (spRows ss ds) w) (hPt : PtsF ss ds w) (hK : SlcIs 2 ak rk w) : Calls Try.prog 110 [.agg #[.slice aj n cj, .slice am nm cm, .slice asp ns csp, .slice ak nk ck]].toArray w (Rets (vI ((0 : Int))) (w)) := by
  refine calls_of_doC (n := 57) Try.func110 rfl rfl rfl ?_
  refine doC_seq ?_
  refine doC_region ?_
  refine doL_box 1 rfl rfl rfl rfl ?_; intro b1
  refine doL_v (opV_assign rfl) rfl rfl rfl ?_
  refine doL_nil ?_
  refine post_then ?_
  refine doC_seq ?_
  refine doC_seq ?_
  refine doC_region ?_
  refine doL_v (opV_fieldAddr fa78_0 rfl) rfl rfl rfl ?_
  refine doL_v (opV_loadA 1 ty74 rfl rfl rfl) rfl rfl rfl ?_
  refine doL_vg (F := vI) (opV_call en107 rfl (fun w' k => cCheck aj am cj nm cm n js l hn hm hjn hln hJ hv w' (slc_grow hS k.grow) (slc_grow hM k.grow))) rfl rfl rfl ?_; intro r11 hr11
  refine doL_v (opV_assign rfl) rfl rfl rfl ?_
  refine doL_nil ?_
  refine post_then ?_
  refine doC_seq ?_
  refine doC_region ?_
  refine doL_v (opV_move rfl) rfl rfl rfl ?_
  refine doL_v (opV_neq rfl rfl) rfl rfl rfl ?_
  refine doL_nil ?_
  refine post_then ?_
  refine doC_cond_f rfl (by rw [hr11]; rfl) ?_
  refine doC_skip ?_
  refine post_then ?_
  refine doC_seq ?_
  refine doC_seq ?_
  refine doC_region ?_
  refine doL_v (opV_fieldAddr fa78_1 rfl) rfl rfl rfl ?_
  refine doL_v (opV_load1 1 ty75 rfl rfl rfl) rfl rfl rfl ?_
  refine doL_v (opV_len_slice sl75 rfl) rfl rfl rfl ?_
  refine doL_v (opV_gtr rfl rfl) rfl rfl rfl ?_
  refine doL_nil ?_
  refine post_then ?_
  refine doC_cond_f rfl (by rw [decide_eq_false_iff_not]; omega) ?_
  refine doC_skip ?_
  refine post_then ?_
  refine doC_seq ?_
  refine doC_seq ?_
  refine doC_region ?_
  refine doL_v (opV_fieldAddr fa78_1 rfl) rfl rfl rfl ?_
  refine doL_v (opV_load1 1 ty75 rfl rfl rfl) rfl rfl rfl ?_
  refine doL_v (opV_len_slice sl75 rfl) rfl rfl rfl ?_
  refine doL_v (opV_move rfl) rfl rfl rfl ?_
  refine doL_nil ?_
  refine post_then ?_
  refine doC_block ?_
  refine doC_loopK [1, 20, 21] [1] (α := Nat) (fun x => ns - x) (fun x => x ≤ ns) (fun _ => ⟨w, []⟩) (fun x => [(22, .int .i64 (x : Int))]) (fun _ => []) 0 rfl rfl ?_ ?_ ?_ ?_ rfl ?_
  ·
    exact Nat.zero_le _
  ·
    exact rfl
  ·
    repeat' first | exact trivial | exact True.intro | refine ⟨rfl, ?_⟩
  ·
    repeat' first | exact trivial | exact True.intro | refine ⟨rfl, ?_⟩
  rintro k hk
  try dsimp only at hk ⊢
  refine doC_seq ?_
  refine doC_region ?_
  refine doL_v (opV_lss rfl rfl) rfl rfl rfl ?_
  refine doL_nil ?_
  refine post_then ?_
  refine doC_seq ?_
  refine doC_cond rfl (fun hc23 => ?_) (fun hc23 => ?_)
  ·
    have h2 : k < ns := by have := of_decide_eq_true hc23; omega
    obtain ⟨s, hsk⟩ : ∃ s, ss[k]? = some s := ⟨_, List.getElem?_eq_getElem (by omega)⟩
    obtain ⟨d, hdk⟩ : ∃ d, ds[k]? = some d := ⟨_, List.getElem?_eq_getElem (by omega)⟩
    have hs := spRows_get ss ds k s d hsk hdk
    have hpt := PtsF_get ss ds k s d w hsk hdk hPt
    obtain ⟨o1, o2, o3, o4⟩ := hsp s (List.mem_of_getElem? hsk)
    refine doC_skip ?_
    refine post_then ?_
    refine doC_seq ?_
    refine doC_block ?_
    refine doC_seq ?_
    refine doC_region ?_
    refine doL_v (opV_indexS (e := 116) (holds_base hSp) (by kernel_rfl) rfl rfl rfl hs h2) rfl rfl rfl ?_
    refine doL_v (opV_loadSA (vs := spc s d) k 0 (holds_base hSp) hs ty116 rfl rfl) rfl rfl rfl ?_
    refine doL_alloc 5 ze116 rfl rfl rfl ?_; intro b5
    refine doL_store 5 ty116 rfl rfl rfl rfl rfl rfl rfl rfl ?_
    refine doL_nil ?_
    refine post_then ?_
    refine doC_seq ?_
    refine doC_region ?_
    refine doL_v (opV_loadA 1 ty78 rfl rfl rfl) rfl rfl rfl ?_
    refine doL_v (opV_loadA 5 ty116 rfl rfl rfl) rfl rfl rfl ?_
    refine doL_vg (F := vI) (opV_call en138 rfl (fun w' k => sCheckShape aj am asp ak cj nm cm csp ck n ns nk s.link s.radius d.1 s.pts.length d.2 s.pts o1 rfl o2 o3 o4 w' (slc_grow hpt k.grow))) rfl rfl rfl ?_; intro r28 hr28
    refine doL_v (opV_assign rfl) rfl rfl rfl ?_
    refine doL_nil ?_
    refine post_then ?_
    refine doC_seq ?_
    refine doC_region ?_
    refine doL_v (opV_move rfl) rfl rfl rfl ?_
    refine doL_v (opV_neq rfl rfl) rfl rfl rfl ?_
    refine doL_nil ?_
    refine post_then ?_
    refine doC_cond_f rfl (by rw [hr28]; rfl) ?_
    refine doC_skip ?_
    refine post_block_normal ?_
    refine post_then ?_
    refine doC_region ?_
    refine doL_v (opV_add rfl rfl (inc_nat (by omega))) rfl rfl rfl ?_
    refine doL_v (opV_move rfl) rfl rfl rfl ?_
    refine doL_nil ?_
    refine post_again (k + 1) (by show k + 1 ≤ ns; omega) (by show ns - (k + 1) < ns - k; omega) rfl ?_ ?_ rfl
    repeat' first | exact trivial | exact True.intro | refine ⟨rfl, ?_⟩
  ·
    refine doC_exit ?_
    refine post_then_exit ?_
    refine post_then_exit ?_
    refine post_block_exit ?_
    refine post_then ?_
    refine doC_seq ?_
    refine doC_seq ?_
    refine doC_region ?_
    refine doL_v (opV_fieldAddr fa78_2 rfl) rfl rfl rfl ?_
    refine doL_v (opV_load1 1 ty76 rfl rfl rfl) rfl rfl rfl ?_
    refine doL_v (opV_len_slice sl76 rfl) rfl rfl rfl ?_
    refine doL_v (opV_gtr rfl rfl) rfl rfl rfl ?_
    refine doL_nil ?_
    refine post_then ?_
    refine doC_cond_f rfl (by rw [decide_eq_false_iff_not]; omega) ?_
    refine doC_skip ?_
    refine post_then ?_
    refine doC_seq ?_
    refine doC_seq ?_
    refine doC_region ?_
    refine doL_v (opV_fieldAddr fa78_2 rfl) rfl rfl rfl ?_
    refine doL_v (opV_load1 1 ty76 rfl rfl rfl) rfl rfl rfl ?_
    refine doL_v (opV_len_slice sl76 rfl) rfl rfl rfl ?_
    refine doL_v (opV_move rfl) rfl rfl rfl ?_
    refine doL_nil ?_
    refine post_then ?_
    refine doC_block ?_
    refine doC_loopK [1, 38, 39] [1] (α := Nat) (fun x => nk - x) (fun x => x ≤ nk) (fun _ => ⟨w, []⟩) (fun x => [(40, .int .i64 (x : Int))]) (fun _ => []) 0 rfl rfl ?_ ?_ ?_ ?_ rfl ?_
    ·
      exact Nat.zero_le _
    ·
      exact rfl
    ·
      repeat' first | exact trivial | exact True.intro | refine ⟨rfl, ?_⟩
    ·
      repeat' first | exact trivial | exact True.intro | refine ⟨rfl, ?_⟩
    rintro i hi
    try dsimp only at hi ⊢
    refine doC_seq ?_
    refine doC_region ?_
    refine doL_v (opV_lss rfl rfl) rfl rfl rfl ?_
    refine doL_nil ?_
    refine post_then ?_
    refine doC_seq ?_
    refine doC_cond rfl (fun hc41 => ?_) (fun hc41 => ?_)
    ·
      have h3 : i < nk := by have := of_decide_eq_true hc41; omega
      obtain ⟨r, hrk2⟩ : ∃ r, rk[i]? = some r := ⟨_, List.getElem?_eq_getElem (by omega)⟩
      obtain ⟨ka, kb, rfl, hka, hkb⟩ := hk2 r (List.mem_of_getElem? hrk2)
      refine doC_skip ?_
      refine post_then ?_
      refine doC_seq ?_
      refine doC_block ?_
      refine doC_seq ?_
      refine doC_region ?_
      refine doL_v (opV_indexS (e := 118) (holds_base hK) (by kernel_rfl) rfl rfl rfl hrk2 h3) rfl rfl rfl ?_
      refine doL_v (opV_loadSA (vs := [.int .i64 ka, .int .i64 kb]) i 0 (holds_base hK) hrk2 ty118 rfl rfl) rfl rfl rfl ?_
      refine doL_alloc 8 ze118 rfl rfl rfl ?_; intro b8
      refine doL_store 8 ty118 rfl rfl rfl rfl rfl rfl rfl rfl ?_
      refine doL_nil ?_
      refine post_then ?_
      refine doC_seq ?_
      refine doC_region ?_
      refine doL_v (opV_loadA 1 ty78 rfl rfl rfl) rfl rfl rfl ?_
      refine doL_v (opV_fieldAddr fa118_0 rfl) rfl rfl rfl ?_
      refine doL_v (opV_load1 8 ty3 rfl rfl rfl) rfl rfl rfl ?_
      refine doL_vg (F := vB) (opV_call en139 rfl (fun w _ => sIsLink _ _ _ _ _ _ _ _ _ _ _ _ _ hka w)) rfl rfl rfl ?_; intro r47 hr47
      refine doL_v (opV_not rfl) rfl rfl rfl ?_
      refine doL_v (opV_move rfl) rfl rfl rfl ?_
      refine doL_false 49 rfl (by rw [hr47]; rfl) ?_
      refine doL_v (opV_loadA 1 ty78 rfl rfl rfl) rfl rfl rfl ?_
      refine doL_v (opV_fieldAddr fa118_1 rfl) rfl rfl rfl ?_
      refine doL_v (opV_load1 8 ty3 rfl rfl rfl) rfl rfl rfl ?_
      refine doL_vg (F := vB) (opV_call en139 rfl (fun w _ => sIsLink _ _ _ _ _ _ _ _ _ _ _ _ _ hkb w)) rfl rfl rfl ?_; intro r53 hr53
      refine doL_v (opV_not rfl) rfl rfl rfl ?_
      refine doL_v (opV_pick_f rfl rfl rfl rfl) rfl rfl rfl ?_
      refine doL_nil ?_
      refine post_then ?_
      refine doC_cond_f rfl (by rw [hr53]; rfl) ?_
      refine doC_skip ?_
      refine post_block_normal ?_
      refine post_then ?_
      refine doC_region ?_
      refine doL_v (opV_add rfl rfl (inc_nat (by omega))) rfl rfl rfl ?_
      refine doL_v (opV_move rfl) rfl rfl rfl ?_
      refine doL_nil ?_
      refine post_again (i + 1) (by show i + 1 ≤ nk; omega) (by show nk - (i + 1) < nk - i; omega) rfl ?_ ?_ rfl
      repeat' first | exact trivial | exact True.intro | refine ⟨rfl, ?_⟩
    ·
      refine doC_exit ?_
      refine post_then_exit ?_
      refine post_then_exit ?_
      refine post_block_exit ?_
      refine post_then ?_
      refine doC_seq ?_
      refine doC_region ?_
      refine doL_v (opV_assign rfl) rfl rfl rfl ?_
      refine doL_nil ?_
      refine post_then ?_
      refine doC_ret ?_
      refine post_rets (rs := [.tmp 2]) rfl (resC (resIs_tmp rfl) (resN)) (congrArg (vI) (?_ : _ = (0 : Int)))
      rfl
theorem shPlace  (lk rad : Int) (ap : Option Addr) (np cp : Nat) (pts : List Z3) (p : Po) (hnp : pts.length = np) (hr : 1 ≤ rad ∧ rad ≤ 1048576) (hl : 1 ≤ np ∧ np ≤ 8) (hb : ∀ z ∈ pts, ZB z) (w : World) (hT : SlcIs 3 ap (pts.map z3c) w) : Calls Try.prog 111 [.agg #[.int .i64 lk, .int .i64 rad, .slice ap np cp], .agg #[.int .i64 p.r.x.x.lo, .int .i64 p.r.x.x.hi, .int .i64 p.r.x.y.lo, .int .i64 p.r.x.y.hi, .int .i64 p.r.x.z.lo, .int .i64 p.r.x.z.hi, .int .i64 p.r.y.x.lo, .int .i64 p.r.y.x.hi, .int .i64 p.r.y.y.lo, .int .i64 p.r.y.y.hi, .int .i64 p.r.y.z.lo, .int .i64 p.r.y.z.hi, .int .i64 p.r.z.x.lo, .int .i64 p.r.z.x.hi, .int .i64 p.r.z.y.lo, .int .i64 p.r.z.y.hi, .int .i64 p.r.z.z.lo, .int .i64 p.r.z.z.hi, .int .i64 p.t.x.lo, .int .i64 p.t.x.hi, .int .i64 p.t.y.lo, .int .i64 p.t.y.hi, .int .i64 p.t.z.lo, .int .i64 p.t.z.hi]].toArray w (RetsF (X := Nat) (fun _ => True) (fun b => .slice (some ⟨b, 0, none⟩) np np) (fun b => SlcIs 6 (some ⟨b, 0, none⟩) ((plR p pts).map vc)) w) := by
  refine calls_of_doC (n := 32) Try.func111 rfl rfl rfl ?_
  refine doC_seq ?_
  refine doC_region ?_
  refine doL_box 2 rfl rfl rfl rfl ?_; intro b2
  refine doL_box 3 rfl rfl rfl rfl ?_; intro b3
  refine doL_v (opV_assign rfl) rfl rfl rfl ?_
  refine doL_nil ?_
  refine post_then ?_
  refine doC_seq ?_
  refine doC_seq ?_
  refine doC_region ?_
  refine doL_v (opV_loadA 2 ty116 rfl rfl rfl) rfl rfl rfl ?_
  refine doL_vg (F := vB) (opV_call en140 rfl (fun w' k => shCheck lk rad ap np cp pts hnp hr hl hb w' (slc_grow hT k.grow))) rfl rfl rfl ?_; intro r9 hr9
  refine doL_v (opV_not rfl) rfl rfl rfl ?_
  refine doL_nil ?_
  refine post_then ?_
  refine doC_cond_f rfl (by rw [hr9]; rfl) ?_
  refine doC_skip ?_
  refine post_then ?_
  refine doC_seq ?_
  refine doC_region ?_
  refine doL_v (opV_fieldAddr fa116_2 rfl) rfl rfl rfl ?_
  refine doL_v (opV_load1 2 ty113 rfl rfl rfl) rfl rfl rfl ?_
  refine doL_v (opV_len_slice sl113 rfl) rfl rfl rfl ?_
  refine doL_make 14 (makeB_of app101 ze34) rfl (by omega) (by omega) rfl rfl ?_; intro b14
  refine doL_v (opV_assign rfl) rfl rfl rfl ?_
  refine doL_nil ?_
  refine post_then ?_
  refine doC_seq ?_
  refine doC_seq ?_
  refine doC_region ?_
  refine doL_v (opV_fieldAddr fa116_2 rfl) rfl rfl rfl ?_
  refine doL_v (opV_load1 2 ty113 rfl rfl rfl) rfl rfl rfl ?_
  refine doL_v (opV_len_slice sl113 rfl) rfl rfl rfl ?_
  refine doL_v (opV_move rfl) rfl rfl rfl ?_
  refine doL_nil ?_
  refine post_then ?_
  refine doC_block ?_
  refine doC_loopK [3, 5, 16, 17] [3] (α := Nat × List V3) (fun x => np - x.1) (fun x => x.1 ≤ np ∧ plR p (pts.take x.1) = x.2 ∧ x.2.length = x.1) (fun x => ⟨w, [(14, (· = b14), RowsF b14 6 34 (plF x.2 (np - x.1)))]⟩) (fun x => [(18, .int .i64 (x.1 : Int))]) (fun _ => []) (0, []) rfl rfl ?_ ?_ ?_ ?_ rfl ?_
  ·
    exact ⟨Nat.zero_le _, rfl, rfl⟩
  ·
    exact rfl
  ·
    repeat' first | exact trivial | exact True.intro | refine ⟨rfl, ?_⟩
  ·
    repeat' first | exact trivial | exact True.intro | refine ⟨rfl, ?_⟩
  rintro ⟨k, vs⟩ ⟨hk, hvs, hlen⟩
  dsimp only at hk hvs hlen ⊢
  subst hlen
  refine doC_seq ?_
  refine doC_region ?_
  refine doL_v (opV_lss rfl rfl) rfl rfl rfl ?_
  refine doL_nil ?_
  refine post_then ?_
  refine doC_seq ?_
  refine doC_cond rfl (fun hc19 => ?_) (fun hc19 => ?_)
  ·
    have h2 : vs.length < np := by have := of_decide_eq_true hc19; omega
    obtain ⟨z, hzk⟩ : ∃ z, pts[vs.length]? = some z := ⟨_, List.getElem?_eq_getElem (by omega)⟩
    have hz : (pts.map z3c)[vs.length]? = some (z3c z) := by rw [List.getElem?_map, hzk]; rfl
    obtain ⟨z0, z1, z2⟩ := hb z (List.mem_of_getElem? hzk)
    obtain ⟨m, hm⟩ : ∃ m, np - vs.length = m + 1 := ⟨np - vs.length - 1, by omega⟩
    rw [hm]
    refine doC_skip ?_
    refine post_then ?_
    refine doC_seq ?_
    refine doC_block ?_
    refine doC_seq ?_
    refine doC_region ?_
    refine doL_v (opV_move rfl) rfl rfl rfl ?_
    refine doL_v (opV_indexS (e := 38) (holds_base hT) (by kernel_rfl) rfl rfl rfl hz h2) rfl rfl rfl ?_
    refine doL_v (opV_loadSA (vs := z3c z) vs.length 0 (holds_base hT) hz ty38 rfl rfl) rfl rfl rfl ?_
    refine doL_alloc 7 ze38 rfl rfl rfl ?_; intro b7
    refine doL_v (opV_assign rfl) rfl rfl rfl ?_
    refine doL_store 7 ty38 rfl rfl rfl rfl rfl rfl rfl rfl ?_
    refine doL_nil ?_
    refine post_then ?_
    refine doC_drawn 6 mo (by kernel_rfl) ?_
    simp only [List.take_succ_cons, List.take_zero, List.drop_succ_cons, List.drop_zero]
    refine doG_v (opV_move rfl) rfl rfl rfl ?_
    refine doG_v (opV_move rfl) rfl rfl rfl ?_
    refine doG_v (opV_loadA 3 ty63 rfl rfl rfl) rfl rfl rfl ?_
    refine doG_v (opV_loadA 7 ty38 rfl rfl rfl) rfl rfl rfl ?_
    refine doG_vg (F := v3) (opV_call en35 rfl (fun w _ => mPoint _ _ _  w)) rfl rfl rfl ?_; intro r27 hr27
    refine doG_vg (F := v3) (opV_call en50 rfl (fun w _ => pApply _ _ _ _ _ _ _ _ _ _ _ _ _ _ _ _ _ _ _ _ _ _ _ _ _ _ _ _ _ _  w)) rfl rfl rfl ?_; intro r28 hr28
    refine doG_nil ?_
    refine tail_nil ?_
    refine doL_v (opV_indexS (e := 34) ((holds_r (id := 14) rfl).imp rowsF_slc) (by kernel_rfl) rfl rfl rfl plF_me h2) rfl rfl rfl ?_
    refine doL_storeRow (vs := vc r28) (j := vs.length) 14 ty34 rfl rfl rfl (by simp [plF]) rfl rfl rfl rfl ?_; intro R29 hR29
    obtain rfl := Option.some.inj hR29
    rw [plF_set]
    refine doL_nil ?_
    refine post_block_normal ?_
    refine post_then ?_
    refine doC_region ?_
    refine doL_v (opV_add rfl rfl (inc_nat (by omega))) rfl rfl rfl ?_
    refine doL_v (opV_move rfl) rfl rfl rfl ?_
    refine doL_nil ?_
    refine post_again (vs.length + 1, vs ++ [r28]) (by refine ⟨?_, ?_, ?_⟩ <;> dsimp only; omega; rw [plR_take hzk, hvs, hr28, hr27]; simp) (by show np - (vs.length + 1) < np - vs.length; omega) (by dsimp only; rw [show np - (vs.length + 1) = m by omega]; try rfl) ?_ ?_ rfl
    repeat' first | exact trivial | exact True.intro | refine ⟨rfl, ?_⟩
  ·
    have h2 : vs.length = np := by have := of_decide_eq_false hc19; omega
    refine doC_exit ?_
    refine post_then_exit ?_
    refine post_then_exit ?_
    refine post_block_exit ?_
    refine post_then ?_
    refine doC_seq ?_
    refine doC_region ?_
    refine doL_v (opV_move rfl) rfl rfl rfl ?_
    refine doL_v (opV_assign rfl) rfl rfl rfl ?_
    refine doL_nil ?_
    refine post_then ?_
    refine doC_ret ?_
    refine post_ret (rs := [.tmp 4]) rfl (resC (resIs_tmp rfl) (resN)) rfl ?_
    intro w2 k2
    obtain ⟨_, q2, q3⟩ := k2.facts _ List.mem_cons_self
    refine ⟨b14, trivial, rfl, k2.grow, ownD _, slc_dep _ _ _, fun z hz => ?_, ?_⟩
    · obtain ⟨ad, h1, h2⟩ := hz
      cases h1
      subst h2
      exact ⟨(q2 _ rfl).1, (q2 _ rfl).2.1⟩
    · have q4 := rowsF_slc _ q3
      rw [List.take_of_length_le (by omega)] at hvs
      rw [hvs]
      simpa [plF, h2] using q4
end Go.Proofs.Ytonampcmhhhffaa
namespace Go.Proofs.Ytonampcmhhhffaa
open Go.Sx
theorem en110 : Enters Try.prog 110 := enters_of Try.func110 (by kernel_rfl) (by kernel_rfl)
theorem app98 : appB Try.prog 98 101 1 24 = true := by kernel_rfl
theorem ze101 : zeroIs Try.prog 101 (.slice none 0 0) := by unfold zeroIs; kernel_rfl
theorem en111 : Enters Try.prog 111 := enters_of Try.func111 (by kernel_rfl) (by kernel_rfl)
theorem ty101 : tyB Try.prog 101 false 1 = true := by kernel_rfl
theorem kPoints  (aj am asp ak : Option Addr) (cj nm cm csp ck n ns nk : Nat) (js : List J) (l : List Ms) (ss : List Sp) (ds : List Ad) (rk : List (List Value)) (ab : Option Addr) (cb : Nat) (bx : List Iv) (hn : 1 ≤ n ∧ n ≤ 10) (hm : nm ≤ 32) (hjn : js.length = n) (hln : l.length = nm) (hsn : ss.length = ns) (hdn : ds.length = ns) (hns : ns ≤ 24) (hnk : nk ≤ 64) (hrk : rk.length = nk) (hJ : ∀ (i : Nat) (j : J), js[i]? = some j → JOK js i j) (hv : ∀ m ∈ l, MB n m) (hsp : ∀ s ∈ ss, SpOK n s) (hk2 : ∀ r ∈ rk, ∃ a b : Int, r = [.int .i64 a, .int .i64 b] ∧ (-1 ≤ a ∧ a < n) ∧ (-1 ≤ b ∧ b < n)) (hbn : bx.length = n) (hvb : ∀ a ∈ bx, Iv.valid a = true) (w : World) (hS : SlcIs 12 aj (js.map jc) w) (hM : SlcIs 5 am (l.map mc) w) (hSp : SlcIs 3 asp (spRows ss ds) w) (hPt : PtsF ss ds w) (hK : SlcIs 2 ak rk w) (hT : SlcIs 2 ab (bx.map ivc) w) : Calls Try.prog 73 [.agg #[.slice aj n cj, .slice am nm cm, .slice asp ns csp, .slice ak nk ck], .slice ab n cb].toArray w (RetsF (X := Nat × List Nat) (fun x => x.2.length = ns) (fun x => .slice (some ⟨x.1, 0, none⟩) ns ns) (fun x w => SlcIs 1 (some ⟨x.1, 0, none⟩) (plRows (ptsP (lks js bx n) ss) x.2) w ∧ PlF (ptsP (lks js bx n) ss) x.2 w) w) := by
  refine calls_of_doC (n := 53) Try.func73 rfl rfl rfl ?_
  refine doC_seq ?_
  refine doC_region ?_
  refine doL_box 2 rfl rfl rfl rfl ?_; intro b2
  refine doL_v (opV_assign rfl) rfl rfl rfl ?_
  refine doL_nil ?_
  refine post_then ?_
  refine doC_seq ?_
  refine doC_seq ?_
  refine doC_region ?_
  refine doL_v (opV_fieldAddr fa78_0 rfl) rfl rfl rfl ?_
  refine doL_v (opV_loadA 2 ty74 rfl rfl rfl) rfl rfl rfl ?_
  refine doL_v (opV_move rfl) rfl rfl rfl ?_
  refine doL_vg (F := vB) (opV_call en106 rfl (fun w' k => kIsBox aj am ab cj nm cm cb n bx (by omega) hbn hvb w' (slc_grow hT k.grow))) rfl rfl rfl ?_; intro r13 hr13
  refine doL_v (opV_not rfl) rfl rfl rfl ?_
  refine doL_v (opV_move rfl) rfl rfl rfl ?_
  refine doL_false 15 rfl (by rw [hr13]; rfl) ?_
  refine doL_v (opV_loadA 2 ty78 rfl rfl rfl) rfl rfl rfl ?_
  refine doL_vg (F := vI) (opV_call en110 rfl (fun w' k => sCheck aj am asp ak cj nm cm csp ck n ns nk js l ss ds rk hn hm hjn hln hsn hdn hns hnk hrk hJ hv hsp hk2 w' (slc_grow hS k.grow) (slc_grow hM k.grow) (slc_grow hSp k.grow) (PtsF_grow _ _ hPt k.grow) (slc_grow hK k.grow))) rfl rfl rfl ?_; intro r17 hr17
  refine doL_v (opV_neq rfl rfl) rfl rfl rfl ?_
  refine doL_v (opV_pick_f rfl rfl rfl rfl) rfl rfl rfl ?_
  refine doL_nil ?_
  refine post_then ?_
  refine doC_cond_f rfl (by rw [hr17]; rfl) ?_
  refine doC_skip ?_
  refine post_then ?_
  refine doC_seq ?_
  refine doC_region ?_
  refine doL_v (opV_fieldAddr fa78_0 rfl) rfl rfl rfl ?_
  refine doL_v (opV_loadA 2 ty74 rfl rfl rfl) rfl rfl rfl ?_
  refine doL_v (opV_move rfl) rfl rfl rfl ?_
  refine doL_told 23 en108 rfl (fun w' k => kLinks aj am ab cj nm cm cb n js bx (by omega) hjn hbn (fun i j hj => by obtain ⟨_, _, _, _, _, _, _, h, _⟩ := hJ i j hj; exact h) w' (slc_grow hS k.grow) (slc_grow hT k.grow)) rfl rfl ?_; intro x23 Dx23 _
  refine doL_v (opV_assign rfl) rfl rfl rfl ?_
  refine doL_nil ?_
  refine post_then ?_
  refine doC_seq ?_
  refine doC_region ?_
  refine doL_v (opV_fieldAddr fa78_1 rfl) rfl rfl rfl ?_
  refine doL_v (opV_load1 2 ty75 rfl rfl rfl) rfl rfl rfl ?_
  refine doL_v (opV_len_slice sl75 rfl) rfl rfl rfl ?_
  refine doL_make 27 (makeB_of app98 ze101) rfl (by omega) (by omega) rfl rfl ?_; intro b27
  refine doL_v (opV_assign rfl) rfl rfl rfl ?_
  refine doL_nil ?_
  refine post_then ?_
  refine doC_seq ?_
  refine doC_seq ?_
  refine doC_fact 200 (PlF [] []) (fun _ => trivial) ?_
  refine doC_region ?_
  refine doL_v (opV_fieldAddr fa78_1 rfl) rfl rfl rfl ?_
  refine doL_v (opV_load1 2 ty75 rfl rfl rfl) rfl rfl rfl ?_
  refine doL_v (opV_len_slice sl75 rfl) rfl rfl rfl ?_
  refine doL_v (opV_move rfl) rfl rfl rfl ?_
  refine doL_nil ?_
  refine post_then ?_
  refine doC_block ?_
  refine doC_loopK [2, 5, 6, 29, 30] [2] (α := Nat × List Nat × (Nat → Prop)) (fun x => ns - x.1) (fun x => x.1 ≤ ns ∧ x.2.1.length = x.1) (fun x => ⟨w, [(200, x.2.2, PlF (ptsP (lks js bx n) (ss.take x.1)) x.2.1), (27, (· = b27), RowsF b27 1 101 (lsR (ptsP (lks js bx n) (ss.take x.1)) x.2.1 (ns - x.1))), (23, Dx23, SlcIs 24 (some ⟨x23, 0, none⟩) ((lks js bx n).map pc))]⟩) (fun x => [(31, .int .i64 (x.1 : Int))]) (fun _ => []) (0, [], fun _ => False) rfl rfl ?_ ?_ ?_ ?_ rfl ?_
  ·
    exact ⟨Nat.zero_le _, rfl⟩
  ·
    exact rfl
  ·
    repeat' first | exact trivial | exact True.intro | refine ⟨rfl, ?_⟩
  ·
    repeat' first | exact trivial | exact True.intro | refine ⟨rfl, ?_⟩
  rintro ⟨k, bs, D⟩ ⟨hk, hlen⟩
  dsimp only at hk hlen ⊢
  have hbs : bs.length = (ptsP (lks js bx n) (ss.take k)).length := by simp [ptsP, hlen]; omega
  have hpk : (ptsP (lks js bx n) (ss.take k)).length = k := by rw [← hbs, hlen]
  refine doC_seq ?_
  refine doC_region ?_
  refine doL_v (opV_lss rfl rfl) rfl rfl rfl ?_
  refine doL_nil ?_
  refine post_then ?_
  refine doC_seq ?_
  refine doC_cond rfl (fun hc32 => ?_) (fun hc32 => ?_)
  ·
    have h2 : k < ns := by have := of_decide_eq_true hc32; omega
    obtain ⟨s, hsk⟩ : ∃ s, ss[k]? = some s := ⟨_, List.getElem?_eq_getElem (by omega)⟩
    obtain ⟨d, hdk⟩ : ∃ d, ds[k]? = some d := ⟨_, List.getElem?_eq_getElem (by omega)⟩
    have hs := spRows_get ss ds k s d hsk hdk
    have hpt := PtsF_get ss ds k s d w hsk hdk hPt
    obtain ⟨o1, o2, o3, o4⟩ := hsp s (List.mem_of_getElem? hsk)
    obtain ⟨m, hm2⟩ : ∃ m, ns - k = m + 1 := ⟨ns - k - 1, by omega⟩
    rw [hm2]
    have hme := lsR_me (m := m) hbs
    rw [hpk] at hme
    refine doC_skip ?_
    refine post_then ?_
    refine doC_seq ?_
    refine doC_block ?_
    refine doC_seq ?_
    refine doC_region ?_
    refine doL_v (opV_move rfl) rfl rfl rfl ?_
    refine doL_v (opV_indexS (e := 116) (holds_base hSp) (by kernel_rfl) rfl rfl rfl hs h2) rfl rfl rfl ?_
    refine doL_v (opV_loadSA (vs := spc s d) k 0 (holds_base hSp) hs ty116 rfl rfl) rfl rfl rfl ?_
    refine doL_alloc 8 ze116 rfl rfl rfl ?_; intro b8
    refine doL_v (opV_assign rfl) rfl rfl rfl ?_
    refine doL_store 8 ty116 rfl rfl rfl rfl rfl rfl rfl rfl ?_
    refine doL_nil ?_
    refine post_then ?_
    refine doC_seq ?_
    refine doC_region ?_
    refine doL_vg (F := po) (opV_call en61 rfl (fun w _ => pIdentity   w)) rfl rfl rfl ?_; intro r36 hr36
    refine doL_alloc 9 ze63 rfl rfl rfl ?_; intro b9
    refine doL_store 9 ty63 rfl rfl rfl rfl rfl rfl rfl rfl ?_
    refine doL_nil ?_
    refine post_then ?_
    refine doC_seq ?_
    refine doC_seq ?_
    refine doC_region ?_
    refine doL_v (opV_fieldAddr fa116_0 rfl) rfl rfl rfl ?_
    refine doL_v (opV_load1 8 ty3 rfl rfl rfl) rfl rfl rfl ?_
    refine doL_v (opV_neq rfl rfl) rfl rfl rfl ?_
    refine doL_nil ?_
    refine post_then ?_
    refine doC_cond rfl (fun hc39 => ?_) (fun hc39 => ?_)
    ·
      have hp : ¬ s.link = -1 := by simpa using hc39
      obtain ⟨pp, hpp⟩ : ∃ pp, (lks js bx n)[s.link.toNat]? = some pp := ⟨_, List.getElem?_eq_getElem (by rw [lks_len _ (by omega) (by omega)]; omega)⟩
      have hpp2 : ((lks js bx n).map pc)[s.link.toNat]? = some (pc pp) := by rw [List.getElem?_map, hpp]; rfl
      have hpd : (lks js bx n).getD s.link.toNat Po.rest = pp := by rw [List.getD_eq_getElem?_getD, hpp]; rfl
      refine doC_region ?_
      refine doL_v (opV_move rfl) rfl rfl rfl ?_
      refine doL_v (opV_fieldAddr fa116_0 rfl) rfl rfl rfl ?_
      refine doL_v (opV_load1 8 ty3 rfl rfl rfl) rfl rfl rfl ?_
      refine doL_v (opV_indexS (e := 63) (holds_r (id := 23) rfl) (by kernel_rfl) rfl rfl (show s.link = ((s.link.toNat : Nat) : Int) by omega) hpp2 (by omega)) rfl rfl rfl ?_
      refine doL_v (opV_loadSA (vs := pc pp) s.link.toNat 0 (holds_r (id := 23) rfl) hpp2 ty63 rfl rfl) rfl rfl rfl ?_
      refine doL_store 9 ty63 rfl rfl rfl rfl rfl rfl rfl rfl ?_
      refine doL_nil ?_
      refine post_then ?_
      refine doC_region ?_
      refine doL_v (opV_move rfl) rfl rfl rfl ?_
      refine doL_v (opV_move rfl) rfl rfl rfl ?_
      refine doL_v (opV_loadA 8 ty116 rfl rfl rfl) rfl rfl rfl ?_
      refine doL_v (opV_loadA 9 ty63 rfl rfl rfl) rfl rfl rfl ?_
      refine doL_told 49 en111 rfl (fun w' k => shPlace s.link s.radius d.1 s.pts.length d.2 s.pts pp rfl o2 o3 o4 w' (slc_grow hpt k.grow)) rfl rfl ?_; intro x49 Dx49 _
      refine doL_v (opV_indexS (e := 101) ((holds_r (id := 27) rfl).imp rowsF_slc) (by kernel_rfl) rfl rfl rfl hme h2) rfl rfl rfl ?_
      refine doL_storeRowV (vs := plc (plR pp s.pts) x49) (j := k) 27 ty101 rfl rfl rfl (by simp [lsR, plRows_len _ _ hbs]; omega) (by simp [plc, plR, Value.cells]) rfl rfl rfl rfl ?_; intro R49 hR49
      obtain rfl := Option.some.inj hR49
      have hset := lsR_set (m := m) (plR pp s.pts) x49 hbs
      rw [hpk] at hset
      rw [hset]
      refine doL_nil ?_
      refine post_block_normal ?_
      refine post_then ?_
      refine doC_merge 200 (PlF ((ptsP (lks js bx n) (ss.take k)) ++ [plR pp s.pts]) (bs ++ [x49])) rfl rfl (fun h1 h2 => PlF_dep hbs h1 h2) (fun w h1 h2 => PlF_snoc _ bs _ x49 w hbs h2 h1) ?_
      refine doC_region ?_
      refine doL_v (opV_add rfl rfl (inc_nat (by omega))) rfl rfl rfl ?_
      refine doL_v (opV_move rfl) rfl rfl rfl ?_
      refine doL_nil ?_
      refine post_again (k + 1, bs ++ [x49], fun z => Dx49 z ∨ D z) (by refine ⟨?_, ?_⟩ <;> dsimp only; omega; simp [hlen]) (by show ns - (k + 1) < ns - k; omega) (by dsimp only; rw [show ns - (k + 1) = m by omega, ptsP_take hsk, show spP (lks js bx n) s = pp from (if_neg hp).trans hpd]; try rfl) ?_ ?_ rfl
      repeat' first | exact trivial | exact True.intro | refine ⟨rfl, ?_⟩
    ·
      have hp : s.link = -1 := by simpa using hc39
      obtain ⟨pp, hpq⟩ : ∃ q, q = r36 := ⟨_, rfl⟩
      subst hpq
      refine doC_skip ?_
      refine post_then ?_
      refine doC_region ?_
      refine doL_v (opV_move rfl) rfl rfl rfl ?_
      refine doL_v (opV_move rfl) rfl rfl rfl ?_
      refine doL_v (opV_loadA 8 ty116 rfl rfl rfl) rfl rfl rfl ?_
      refine doL_v (opV_loadA 9 ty63 rfl rfl rfl) rfl rfl rfl ?_
      refine doL_told 49 en111 rfl (fun w' k => shPlace s.link s.radius d.1 s.pts.length d.2 s.pts pp rfl o2 o3 o4 w' (slc_grow hpt k.grow)) rfl rfl ?_; intro x49 Dx49 _
      refine doL_v (opV_indexS (e := 101) ((holds_r (id := 27) rfl).imp rowsF_slc) (by kernel_rfl) rfl rfl rfl hme h2) rfl rfl rfl ?_
      refine doL_storeRowV (vs := plc (plR pp s.pts) x49) (j := k) 27 ty101 rfl rfl rfl (by simp [lsR, plRows_len _ _ hbs]; omega) (by simp [plc, plR, Value.cells]) rfl rfl rfl rfl ?_; intro R49 hR49
      obtain rfl := Option.some.inj hR49
      have hset := lsR_set (m := m) (plR pp s.pts) x49 hbs
      rw [hpk] at hset
      rw [hset]
      refine doL_nil ?_
      refine post_block_normal ?_
      refine post_then ?_
      refine doC_merge 200 (PlF ((ptsP (lks js bx n) (ss.take k)) ++ [plR pp s.pts]) (bs ++ [x49])) rfl rfl (fun h1 h2 => PlF_dep hbs h1 h2) (fun w h1 h2 => PlF_snoc _ bs _ x49 w hbs h2 h1) ?_
      refine doC_region ?_
      refine doL_v (opV_add rfl rfl (inc_nat (by omega))) rfl rfl rfl ?_
      refine doL_v (opV_move rfl) rfl rfl rfl ?_
      refine doL_nil ?_
      refine post_again (k + 1, bs ++ [x49], fun z => Dx49 z ∨ D z) (by refine ⟨?_, ?_⟩ <;> dsimp only; omega; simp [hlen]) (by show ns - (k + 1) < ns - k; omega) (by dsimp only; rw [show ns - (k + 1) = m by omega, ptsP_take hsk, show spP (lks js bx n) s = pp from (if_pos hp).trans hr36.symm]; try rfl) ?_ ?_ rfl
      repeat' first | exact trivial | exact True.intro | refine ⟨rfl, ?_⟩
  ·
    obtain rfl : k = ns := by have := of_decide_eq_false hc32; omega
    refine doC_exit ?_
    refine post_then_exit ?_
    refine post_then_exit ?_
    refine post_block_exit ?_
    refine post_then ?_
    refine doC_seq ?_
    refine doC_region ?_
    refine doL_v (opV_move rfl) rfl rfl rfl ?_
    refine doL_v (opV_assign rfl) rfl rfl rfl ?_
    refine doL_nil ?_
    refine post_then ?_
    refine doC_ret ?_
    refine post_ret (rs := [.tmp 4]) rfl (resC (resIs_tmp rfl) (resN)) rfl ?_
    intro w2 k2
    obtain ⟨p1, p2, p3⟩ := k2.facts _ List.mem_cons_self
    obtain ⟨_, q2, q3⟩ := k2.facts _ (List.mem_cons_of_mem _ List.mem_cons_self)
    have hts : ss.take k = ss := List.take_of_length_le (by omega)
    rw [hts] at p1 p3 q3
    refine ⟨(b27, bs), hlen, rfl, k2.grow, told_and ⟨ownD _, slc_dep _ _ _, fun z hz => ?_, ?_⟩ ⟨_, p1, fun z hz => ⟨(p2 z hz).1, (p2 z hz).2.1⟩, p3⟩⟩
    · obtain ⟨ad, h1, h2⟩ := hz
      cases h1
      subst h2
      exact ⟨(q2 _ rfl).1, (q2 _ rfl).2.1⟩
    · have q4 := rowsF_slc _ q3
      simpa [lsR] using q4
end Go.Proofs.Ytonampcmhhhffaa
namespace Go.Sx
def Bd (K : Int) (a : Iv) : Prop := -K ≤ a.lo ∧ a.lo ≤ a.hi ∧ a.hi ≤ K
theorem bd_valid {K : Int} {a : Iv} (h : Bd K a) (hK : K ≤ 2147483648) : a.valid = true := by
  obtain ⟨h1, h2, h3⟩ := h
  unfold Iv.valid
  simp only [Bool.and_eq_true, decide_eq_true_eq]
  omega
theorem bd_mono {K L : Int} {a : Iv} (h : Bd K a) (hK : K ≤ L) : Bd L a := by
  obtain ⟨h1, h2, h3⟩ := h
  exact ⟨by omega, h2, by omega⟩
theorem bd_add {K L : Int} {a b : Iv} (ha : Bd K a) (hb : Bd L b) (h : K + L ≤ 2147483648) (h0 : 0 ≤ K ∧ 0 ≤ L) : Bd (K + L) (Iv.add a b) := by
  unfold Iv.add
  rw [bd_valid ha (by omega), bd_valid hb (by omega)]
  obtain ⟨a1, a2, a3⟩ := ha
  obtain ⟨b1, b2, b3⟩ := hb
  simp only [Bool.and_self, cond_true]
  unfold Bd clampI
  dsimp only
  omega
theorem mul_b {x y K : Int} (hx : -65536 ≤ x ∧ x ≤ 65536) (hy : -K ≤ y ∧ y ≤ K) : -(65536 * K) ≤ x * y ∧ x * y ≤ 65536 * K := by
  have hK : 0 ≤ K := by omega
  have h1 : 0 ≤ (65536 - x) * (K + y) := Int.mul_nonneg (by omega) (by omega)
  have h2 : 0 ≤ (65536 + x) * (K - y) := Int.mul_nonneg (by omega) (by omega)
  have h3 : 0 ≤ (65536 - x) * (K - y) := Int.mul_nonneg (by omega) (by omega)
  have h4 : 0 ≤ (65536 + x) * (K + y) := Int.mul_nonneg (by omega) (by omega)
  have e1 : (65536 - x) * (K + y) = 65536 * K + 65536 * y - x * K - x * y := by rw [Int.sub_mul, Int.mul_add, Int.mul_add]; omega
  have e2 : (65536 + x) * (K - y) = 65536 * K - 65536 * y + x * K - x * y := by rw [Int.add_mul, Int.mul_sub, Int.mul_sub]; omega
  have e3 : (65536 - x) * (K - y) = 65536 * K - 65536 * y - x * K + x * y := by rw [Int.sub_mul, Int.mul_sub, Int.mul_sub]; omega
  have e4 : (65536 + x) * (K + y) = 65536 * K + 65536 * y + x * K + x * y := by rw [Int.add_mul, Int.mul_add, Int.mul_add]; omega
  omega
theorem bd_mul {K : Int} {a b : Iv} (ha : Bd 65536 a) (hb : Bd K b) (h : K ≤ 2147483648) : Bd K (Iv.mul a b) := by
  unfold Iv.mul
  rw [bd_valid ha (by decide), bd_valid hb h]
  obtain ⟨a1, a2, a3⟩ := ha
  obtain ⟨b1, b2, b3⟩ := hb
  have p1 := mul_b (x := a.lo) (y := b.lo) (K := K) (by omega) (by omega)
  have p2 := mul_b (x := a.lo) (y := b.hi) (K := K) (by omega) (by omega)
  have p3 := mul_b (x := a.hi) (y := b.lo) (K := K) (by omega) (by omega)
  have p4 := mul_b (x := a.hi) (y := b.hi) (K := K) (by omega) (by omega)
  simp only [Bool.and_self, cond_true]
  generalize a.lo * b.lo = x1 at *
  generalize a.lo * b.hi = x2 at *
  generalize a.hi * b.lo = x3 at *
  generalize a.hi * b.hi = x4 at *
  unfold Bd clampI min4 max4 ceilI
  dsimp only
  omega
theorem bd_neg {K : Int} {a : Iv} (h : Bd K a) (hK : K ≤ 2147483648) : Bd K (Iv.neg a) := by
  unfold Iv.neg
  rw [bd_valid h hK]
  obtain ⟨h1, h2, h3⟩ := h
  simp only [cond_true]
  unfold Bd
  dsimp only
  omega
theorem bd_lim {K : Int} {a : Iv} (h : Bd K a) : Bd 65536 (limV a) := by
  obtain ⟨h1, h2, h3⟩ := h
  unfold limV limI Bd
  dsimp only
  omega
def BV (K : Int) (v : V3) : Prop := Bd K v.x ∧ Bd K v.y ∧ Bd K v.z
def BM (m : M3) : Prop := BV 65536 m.x ∧ BV 65536 m.y ∧ BV 65536 m.z
def BP (K : Int) (p : Po) : Prop := BM p.r ∧ BV K p.t
theorem bv_mono {K L : Int} {v : V3} (h : BV K v) (hK : K ≤ L) : BV L v := ⟨bd_mono h.1 hK, bd_mono h.2.1 hK, bd_mono h.2.2 hK⟩
theorem bp_mono {K L : Int} {p : Po} (h : BP K p) (hK : K ≤ L) : BP L p := ⟨h.1, bv_mono h.2 hK⟩
theorem bd_dot {K : Int} {a b : V3} (ha : BV 65536 a) (hb : BV K b) (h : 3 * K ≤ 2147483648) (h0 : 0 ≤ K) : Bd (3 * K) (V3.dot a b) := by
  have e : 3 * K = K + K + K := by omega
  rw [e]
  exact bd_add (bd_add (bd_mul ha.1 hb.1 (by omega)) (bd_mul ha.2.1 hb.2.1 (by omega)) (by omega) (by omega)) (bd_mul ha.2.2 hb.2.2 (by omega)) (by omega) (by omega)
theorem bm_tr {m : M3} (h : BM m) : BM (M3.tr m) := ⟨⟨h.1.1, h.2.1.1, h.2.2.1⟩, ⟨h.1.2.1, h.2.1.2.1, h.2.2.2.1⟩, ⟨h.1.2.2, h.2.1.2.2, h.2.2.2.2⟩⟩
theorem bd_row {a : V3} {b : M3} (ha : BV 65536 a) (hb : BM b) : BV 65536 (M3.row a b) := ⟨bd_lim (bd_dot ha (bm_tr hb).1 (by decide) (by decide)), bd_lim (bd_dot ha (bm_tr hb).2.1 (by decide) (by decide)), bd_lim (bd_dot ha (bm_tr hb).2.2 (by decide) (by decide))⟩
theorem bm_mul {a b : M3} (ha : BM a) (hb : BM b) : BM (M3.mul a b) := ⟨bd_row ha.1 hb, bd_row ha.2.1 hb, bd_row ha.2.2 hb⟩
theorem bv_apply {K : Int} {m : M3} {v : V3} (hm : BM m) (hv : BV K v) (h : 3 * K ≤ 2147483648) (h0 : 0 ≤ K) : BV (3 * K) (M3.apply m v) := ⟨bd_dot hm.1 hv h h0, bd_dot hm.2.1 hv h h0, bd_dot hm.2.2 hv h h0⟩
theorem bv_app {K L : Int} {p : Po} {v : V3} (hp : BP K p) (hv : BV L v) (h : K + 3 * L ≤ 2147483648) (h0 : 0 ≤ K ∧ 0 ≤ L) : BV (K + 3 * L) (Po.app p v) := by
  have hm := bv_apply hp.1 hv (by omega) h0.2
  exact ⟨bd_add hp.2.1 hm.1 h (by omega), bd_add hp.2.2.1 hm.2.1 h (by omega), bd_add hp.2.2.2 hm.2.2 h (by omega)⟩
theorem bp_mul {K L : Int} {p q : Po} (hp : BP K p) (hq : BP L q) (h : K + 3 * L ≤ 2147483648) (h0 : 0 ≤ K ∧ 0 ≤ L) : BP (K + 3 * L) (Po.mul p q) := ⟨bm_mul hp.1 hq.1, bv_app hp hq.2 h h0⟩
theorem bd0 {K : Int} (h : 0 ≤ K) : Bd K iv0 := ⟨by show -K ≤ 0; omega, Int.le_refl _, h⟩
theorem bd1 : Bd 65536 iv1 := ⟨by decide, by decide, by decide⟩
theorem bm_unit : BM M3.unit := ⟨⟨bd1, bd0 (by decide), bd0 (by decide)⟩, ⟨bd0 (by decide), bd1, bd0 (by decide)⟩, ⟨bd0 (by decide), bd0 (by decide), bd1⟩⟩
theorem bm_zero : BM M3.zero := ⟨⟨bd0 (by decide), bd0 (by decide), bd0 (by decide)⟩, ⟨bd0 (by decide), bd0 (by decide), bd0 (by decide)⟩, ⟨bd0 (by decide), bd0 (by decide), bd0 (by decide)⟩⟩
theorem bv_zero {K : Int} (h : 0 ≤ K) : BV K V3.zero := ⟨bd0 h, bd0 h, bd0 h⟩
theorem bp_rest {K : Int} (h : 0 ≤ K) : BP K Po.rest := ⟨bm_unit, bv_zero h⟩
theorem bd_of {x K : Int} (h : -K ≤ x ∧ x ≤ K) (hK : K ≤ 2147483648) : Bd K (Iv.of x) := by
  unfold Iv.of Bd clampI
  dsimp only
  omega
theorem bv_of {z : Z3} (h : ZB z) : BV 4194304 (V3.of z) := ⟨bd_of h.1 (by decide), bd_of h.2.1 (by decide), bd_of h.2.2 (by decide)⟩
theorem bv_put {k K : Int} {a : Iv} (h : Bd K a) (h0 : 0 ≤ K) : BV K (V3.put k a) := by
  unfold V3.put
  split
  · exact ⟨h, bd0 h0, bd0 h0⟩
  · split
    · exact ⟨bd0 h0, h, bd0 h0⟩
    · exact ⟨bd0 h0, bd0 h0, h⟩
theorem bd_ov {c l h : Int} (v : -2147483648 ≤ l ∧ l ≤ h ∧ h ≤ 2147483648) : Bd 65536 (ovI c l h) := ov_bnd v
theorem bm_turn {axis : Int} {a : Iv} (v : -2147483648 ≤ a.lo ∧ a.lo ≤ a.hi ∧ a.hi ≤ 2147483648) : BM (M3.turn axis a) := by
  have hs : Bd 65536 (sinOverI a) := by rw [sinOver_ov]; exact bd_ov v
  have hc : Bd 65536 (cosOverI a) := by rw [cosOver_ov]; exact bd_ov v
  have hn := bd_neg hs (by decide)
  have h0 : Bd 65536 iv0 := bd0 (by decide)
  unfold M3.turn
  cases !(Iv.valid a)
  · simp only [cond_false]
    cases decide (axis = 0)
    · simp only [cond_false]
      cases decide (axis = 1)
      · simp only [cond_false]
        cases decide (axis = 2)
        · exact bm_zero
        · exact ⟨⟨hc, hn, h0⟩, ⟨hs, hc, h0⟩, ⟨h0, h0, bd1⟩⟩
      · exact ⟨⟨hc, h0, hs⟩, ⟨h0, bd1, h0⟩, ⟨hn, h0, hc⟩⟩
    · exact ⟨⟨bd1, h0, h0⟩, ⟨h0, hc, hn⟩, ⟨h0, hs, hc⟩⟩
  · exact bm_zero
theorem bp_jPose {k : Int} {o : Z3} {a : Iv} (ho : ZB o) (ha : Bd 1000000 a) : BP 7194304 (jPose k o a) := by
  unfold jPose
  have h : BP 1000000 (jMot k a) := by
    unfold jMot
    split
    · obtain ⟨h1, h2, h3⟩ := ha
      exact ⟨bm_turn (by omega), bv_zero (by decide)⟩
    · split
      · exact ⟨bm_unit, bv_put ha (by decide)⟩
      · exact bp_rest (by decide)
  exact bp_mul (K := 4194304) ⟨bm_unit, bv_of ho⟩ h (by decide) (by decide)
theorem bp_lks {js : List J} {bx : List Iv} (hj : ∀ j ∈ js, ZB j.off) (hb : ∀ a ∈ bx, Bd 1000000 a) : ∀ n : Nat, n ≤ 10 → ∀ p ∈ lks js bx n, BP (24000000 * n) p
  | 0, _, p, h => by cases h
  | n + 1, hn, p, h => by
    have ih : ∀ p ∈ lks js bx n, BP (24000000 * (n : Int)) p := bp_lks hj hb n (by omega)
    cases hj1 : js[n]? with
    | none =>
      simp only [lks, hj1] at h
      exact bp_mono (ih p h) (by omega)
    | some j =>
      cases hx : bx[n]? with
      | none =>
        simp only [lks, hj1, hx] at h
        exact bp_mono (ih p h) (by omega)
      | some a =>
        rw [lks_succ hj1 hx] at h
        rcases List.mem_append.1 h with h | h
        · exact bp_mono (ih p h) (by omega)
        · obtain rfl := List.mem_singleton.1 h
          have hJ := bp_jPose (k := j.kind) (hj j (List.mem_of_getElem? hj1)) (hb a (List.mem_of_getElem? hx))
          unfold lkP
          split
          · exact bp_mono hJ (by omega)
          · refine bp_mono (bp_mul (K := 24000000 * (n : Int)) ?_ hJ (by omega) (by omega)) (by omega)
            rw [List.getD_eq_getElem?_getD]
            cases hg : (lks js bx n)[j.parent.toNat]? with
            | none => exact bp_rest (by omega)
            | some p => exact ih p (List.mem_of_getElem? hg)
theorem bv_pts {js : List J} {bx : List Iv} {n : Nat} {ss : List Sp} (hn : n ≤ 3) (hj : ∀ j ∈ js, ZB j.off) (hb : ∀ a ∈ bx, Bd 1000000 a) (hs : ∀ s ∈ ss, SpOK n s) : ∀ v ∈ ptsP (lks js bx n) ss, (1 ≤ v.length ∧ v.length ≤ 8) ∧ ∀ x ∈ v, BV 268435456 x := fun v hv => by
  obtain ⟨s, hsm, rfl⟩ := List.mem_map.1 hv
  obtain ⟨h1, h2, h3, h4⟩ := hs s hsm
  refine ⟨by simpa [plR] using h3, fun x hx => ?_⟩
  obtain ⟨z, hz, rfl⟩ := List.mem_map.1 hx
  have hp : BP 72000000 (spP (lks js bx n) s) := by
    unfold spP
    split
    · exact bp_rest (by decide)
    · rw [List.getD_eq_getElem?_getD]
      cases hg : (lks js bx n)[s.link.toNat]? with
      | none => exact bp_rest (by decide)
      | some p => exact bp_mono (bp_lks hj hb n (by omega) p (List.mem_of_getElem? hg)) (by omega)
  exact bv_mono (bv_app hp (bv_of (h4 z hz)) (by decide) (by decide)) (by decide)
theorem bxs_bd {l : List Int} {js : List J} (hj : ∀ j ∈ js, JB j) : ∀ k, ∀ a ∈ (bxs l js k).1, Bd 1000000 a
  | 0, a, h => by cases h
  | k + 1, a, h => by
    cases hk : js[k]? with
    | none => simp only [bxs, hk] at h; exact bxs_bd hj k a h
    | some j =>
      simp only [bxs, hk] at h
      rcases List.mem_append.1 h with h | h
      · exact bxs_bd hj k a h
      · obtain rfl := List.mem_singleton.1 h
        obtain ⟨b1, b2, b3⟩ := hj j (List.mem_of_getElem? hk)
        have r := srcR_bnd l (bxs l js k).2 (k := j.hi - j.lo + 1) (by omega)
        have hx : 0 ≤ (bxW l ((bxs l js k).2 + 1) (j.hi - j.lo)).1 := by
          have a1 := srcR_bnd l ((bxs l js k).2 + 1 + 1) (k := 3000) (by decide)
          have a2 := srcR_bnd l ((bxs l js k).2 + 1 + 1) (k := 200) (by decide)
          unfold bxW
          repeat' split
          all_goals (dsimp only; omega)
        unfold Bd bxLo
        dsimp only
        omega
theorem ptsOf_b {L : List Int} {p : Nat} {c : Z3} (hc : (-294912 ≤ c.x ∧ c.x ≤ 294912) ∧ (-294912 ≤ c.y ∧ c.y ≤ 294912) ∧ (-294912 ≤ c.z ∧ c.z ≤ 294912)) : ∀ k, ∀ z ∈ ptsOf L p c k, ZB z
  | 0, z, h => by
    obtain rfl := List.mem_singleton.1 h
    unfold ZB; omega
  | k + 1, z, h => by
    rcases List.mem_append.1 (show z ∈ ptsOf L p c k ++ [_] from h) with h | h
    · exact ptsOf_b hc k z h
    · obtain rfl := List.mem_singleton.1 h
      have a := srcR_bnd L (p + 1 + 3 * k) (k := 2 * 3 + 1) (by decide)
      have b := srcR_bnd L (p + 1 + 3 * k + 1) (k := 2 * 2 + 1) (by decide)
      have d := srcR_bnd L (p + 1 + 3 * k + 2) (k := 2 * 2 + 1) (by decide)
      unfold ZB ptOf srcS
      dsimp only
      omega
theorem rad_b {r : Int} (h : 0 ≤ r ∧ r < 4) : 1 ≤ ((1 + r) * 65536).tdiv 8 ∧ ((1 + r) * 65536).tdiv 8 ≤ 1048576 := by
  rw [Int.tdiv_eq_ediv_of_nonneg (by omega)]
  omega
theorem shA_ok (l : List Int) : ∀ k, k ≤ nJ l 0 → ∀ s ∈ (shA l k).1, SpOK (nJ l 0) s
  | 0, _, s, h => by cases h
  | k + 1, hk, s, h => by
    unfold shA at h
    split at h
    · rcases List.mem_append.1 h with h | h
      · exact shA_ok l k (by omega) s h
      · obtain rfl := List.mem_singleton.1 h
        have r1 := srcR_bnd l ((shA l k).2 + 1) (k := 3) (by decide)
        have r2 := srcR_bnd l ((shA l k).2 + 2) (k := 4) (by decide)
        have hp := ptsN_b l ((shA l k).2 + 3)
        refine ⟨by unfold linkSp; dsimp only; omega, rad_b (by omega), by unfold linkSp; dsimp only; rw [ptsOf_len]; omega, ptsOf_b (by dsimp only; omega) _⟩
    · exact shA_ok l k (by omega) s h
theorem shB_ok (l : List Int) : ∀ k, ∀ s ∈ (shB l k).1, SpOK (nJ l 0) s
  | 0, s, h => shA_ok l _ (Nat.le_refl _) s h
  | k + 1, s, h => by
    rcases List.mem_append.1 (show s ∈ (shB l k).1 ++ [_] from h) with h | h
    · exact shB_ok l k s h
    · obtain rfl := List.mem_singleton.1 h
      have r1 := srcR_bnd l ((shB l k).2 + 3) (k := 4) (by decide)
      have r2 := srcR_bnd l (shB l k).2 (k := 2 * 9 + 1) (by decide)
      have r3 := srcR_bnd l ((shB l k).2 + 1) (k := 2 * 9 + 1) (by decide)
      have r4 := srcR_bnd l ((shB l k).2 + 2) (k := 2 * 2 + 1) (by decide)
      have hp := ptsN_b l ((shB l k).2 + 4)
      have hn := nJ_b l 0
      refine ⟨by unfold obSp; dsimp only; omega, rad_b (by omega), by unfold obSp; dsimp only; rw [ptsOf_len]; omega, ptsOf_b (by unfold srcS; dsimp only; omega) _⟩
theorem skR_ok (l : List Int) : (skR l).length = skN l ∧ skN l ≤ 64 ∧ ∀ r ∈ skR l, ∃ a b : Int, r = [.int .i64 a, .int .i64 b] ∧ (-1 ≤ a ∧ a < (nJ l 0 : Int)) ∧ (-1 ≤ b ∧ b < (nJ l 0 : Int)) := by
  have hn := nJ_b l 0
  have hr := srcR_bnd l (scQ l + 1) (k := (nJ l 0 : Int)) (by omega)
  by_cases h : srcR l (scQ l) 5 = 1
  · obtain ⟨h1, h2⟩ := sk_t h
    rw [h1, h2]
    refine ⟨rfl, by decide, fun r hr2 => ?_⟩
    obtain rfl := List.mem_singleton.1 hr2
    exact ⟨_, _, rfl, by omega, by omega⟩
  · obtain ⟨h1, h2⟩ := sk_f h
    rw [h1, h2]
    exact ⟨rfl, by decide, fun r hr2 => by cases hr2⟩
end Go.Sx
namespace Go.Proofs.Ytonampcmhhhffaa
open Go.Sx
theorem sl101 : slcB Try.prog 101 34 6 = true := by kernel_rfl
theorem en112 : Enters Try.prog 112 := enters_of Try.func112 (by kernel_rfl) (by kernel_rfl)
theorem rReached (v0 v1 v2 v3 v4 v5 : Int) (hx : -268435456 ≤ v0 ∧ v0 ≤ v1 ∧ v1 ≤ 268435456) (hy : -268435456 ≤ v2 ∧ v2 ≤ v3 ∧ v3 ≤ 268435456) (hz : -268435456 ≤ v4 ∧ v4 ≤ v5 ∧ v5 ≤ 268435456) (w : World) : Calls Try.prog 112 [.agg #[.int .i64 v0, .int .i64 v1, .int .i64 v2, .int .i64 v3, .int .i64 v4, .int .i64 v5]].toArray w (Rets (vB (true)) (w)) := by
  refine calls_of_doC (n := 31) Try.func112 rfl rfl rfl ?_
  refine doC_seq ?_
  refine doC_region ?_
  refine doL_box 1 rfl rfl rfl rfl ?_; intro b1
  refine doL_v (opV_assign rfl) rfl rfl rfl ?_
  refine doL_nil ?_
  refine post_then ?_
  refine doC_seq ?_
  refine doC_seq ?_
  refine doC_region ?_
  refine doL_v (opV_assign rfl) rfl rfl rfl ?_
  refine doL_nil ?_
  refine post_then ?_
  refine doC_block ?_
  refine doC_rounds 4 ?_
  refine doR_succ ?_
  refine doC_seq ?_
  refine doC_seq ?_
  refine doC_region ?_
  refine doL_v (opV_move rfl) rfl rfl rfl ?_
  refine doL_v (opV_lss rfl rfl) rfl rfl rfl ?_
  refine doL_nil ?_
  refine post_then ?_
  refine doC_cond_t rfl (by decide) ?_
  refine doC_skip ?_
  refine post_then ?_
  refine doC_seq ?_
  refine doC_block ?_
  refine doC_seq ?_
  refine doC_all mo (by kernel_rfl) ?_
  refine doG_v (opV_move rfl) rfl rfl rfl ?_
  refine doG_v (opV_indexAddr ar34 rfl rfl (by first | decide | omega) (by first | decide | omega)) rfl rfl rfl ?_
  refine doG_v (opV_fieldAddr fa23_0 rfl) rfl rfl rfl ?_
  refine doG_v (opV_load1 1 ty2 rfl rfl rfl) rfl rfl rfl ?_
  refine doG_vg (F := vB) (opV_lss rfl rfl) rfl rfl rfl ?_; intro r12 hr12
  obtain rfl : r12 = false := hr12.trans (by rw [decide_eq_false_iff_not]; omega)
  refine doG_v (opV_move rfl) rfl rfl rfl ?_
  refine doG_v (opV_move rfl) rfl rfl rfl ?_
  refine doG_v (opV_indexAddr ar34 rfl rfl (by first | decide | omega) (by first | decide | omega)) rfl rfl rfl ?_
  refine doG_v (opV_fieldAddr fa23_0 rfl) rfl rfl rfl ?_
  refine doG_v (opV_load1 1 ty2 rfl rfl rfl) rfl rfl rfl ?_
  refine doG_v (opV_move rfl) rfl rfl rfl ?_
  refine doG_v (opV_indexAddr ar34 rfl rfl (by first | decide | omega) (by first | decide | omega)) rfl rfl rfl ?_
  refine doG_v (opV_fieldAddr fa23_1 rfl) rfl rfl rfl ?_
  refine doG_v (opV_load1 1 ty2 rfl rfl rfl) rfl rfl rfl ?_
  refine doG_vg (F := vB) (opV_gtr rfl rfl) rfl rfl rfl ?_; intro r22 hr22
  obtain rfl : r22 = false := hr22.trans (by rw [decide_eq_false_iff_not]; omega)
  refine doG_v (opV_pick_f rfl rfl rfl rfl) rfl rfl rfl ?_
  refine doG_v (opV_move rfl) rfl rfl rfl ?_
  refine doG_v (opV_move rfl) rfl rfl rfl ?_
  refine doG_v (opV_indexAddr ar34 rfl rfl (by first | decide | omega) (by first | decide | omega)) rfl rfl rfl ?_
  refine doG_v (opV_fieldAddr fa23_1 rfl) rfl rfl rfl ?_
  refine doG_v (opV_load1 1 ty2 rfl rfl rfl) rfl rfl rfl ?_
  refine doG_v (opV_gtr rfl rfl) rfl rfl rfl ?_
  refine doG_v (opV_pick_f rfl rfl rfl rfl) rfl rfl rfl ?_
  refine doG_nil ?_
  refine post_then ?_
  refine doC_cond_f rfl (by rw [decide_eq_false_iff_not]; omega) ?_
  refine doC_skip ?_
  refine post_block_normal ?_
  refine post_then ?_
  refine doC_region ?_
  refine doL_v (opV_move rfl) rfl rfl rfl ?_
  refine doL_v (opV_add rfl rfl (by first | exact i64_in ⟨by omega, by omega⟩ | rfl)) rfl rfl rfl ?_
  refine doL_v (opV_assign rfl) rfl rfl rfl ?_
  refine doL_nil ?_
  refine post_rounds ?_
  refine doR_succ ?_
  refine doC_seq ?_
  refine doC_seq ?_
  refine doC_region ?_
  refine doL_v (opV_move rfl) rfl rfl rfl ?_
  refine doL_v (opV_lss rfl rfl) rfl rfl rfl ?_
  refine doL_nil ?_
  refine post_then ?_
  refine doC_cond_t rfl (by decide) ?_
  refine doC_skip ?_
  refine post_then ?_
  refine doC_seq ?_
  refine doC_block ?_
  refine doC_seq ?_
  refine doC_all mo (by kernel_rfl) ?_
  refine doG_v (opV_move rfl) rfl rfl rfl ?_
  refine doG_v (opV_indexAddr ar34 rfl rfl (by first | decide | omega) (by first | decide | omega)) rfl rfl rfl ?_
  refine doG_v (opV_fieldAddr fa23_0 rfl) rfl rfl rfl ?_
  refine doG_v (opV_load1 1 ty2 rfl rfl rfl) rfl rfl rfl ?_
  refine doG_vg (F := vB) (opV_lss rfl rfl) rfl rfl rfl ?_; intro r12_2 hr12_2
  obtain rfl : r12_2 = false := hr12_2.trans (by rw [decide_eq_false_iff_not]; omega)
  refine doG_v (opV_move rfl) rfl rfl rfl ?_
  refine doG_v (opV_move rfl) rfl rfl rfl ?_
  refine doG_v (opV_indexAddr ar34 rfl rfl (by first | decide | omega) (by first | decide | omega)) rfl rfl rfl ?_
  refine doG_v (opV_fieldAddr fa23_0 rfl) rfl rfl rfl ?_
  refine doG_v (opV_load1 1 ty2 rfl rfl rfl) rfl rfl rfl ?_
  refine doG_v (opV_move rfl) rfl rfl rfl ?_
  refine doG_v (opV_indexAddr ar34 rfl rfl (by first | decide | omega) (by first | decide | omega)) rfl rfl rfl ?_
  refine doG_v (opV_fieldAddr fa23_1 rfl) rfl rfl rfl ?_
  refine doG_v (opV_load1 1 ty2 rfl rfl rfl) rfl rfl rfl ?_
  refine doG_vg (F := vB) (opV_gtr rfl rfl) rfl rfl rfl ?_; intro r22_2 hr22_2
  obtain rfl : r22_2 = false := hr22_2.trans (by rw [decide_eq_false_iff_not]; omega)
  refine doG_v (opV_pick_f rfl rfl rfl rfl) rfl rfl rfl ?_
  refine doG_v (opV_move rfl) rfl rfl rfl ?_
  refine doG_v (opV_move rfl) rfl rfl rfl ?_
  refine doG_v (opV_indexAddr ar34 rfl rfl (by first | decide | omega) (by first | decide | omega)) rfl rfl rfl ?_
  refine doG_v (opV_fieldAddr fa23_1 rfl) rfl rfl rfl ?_
  refine doG_v (opV_load1 1 ty2 rfl rfl rfl) rfl rfl rfl ?_
  refine doG_v (opV_gtr rfl rfl) rfl rfl rfl ?_
  refine doG_v (opV_pick_f rfl rfl rfl rfl) rfl rfl rfl ?_
  refine doG_nil ?_
  refine post_then ?_
  refine doC_cond_f rfl (by rw [decide_eq_false_iff_not]; omega) ?_
  refine doC_skip ?_
  refine post_block_normal ?_
  refine post_then ?_
  refine doC_region ?_
  refine doL_v (opV_move rfl) rfl rfl rfl ?_
  refine doL_v (opV_add rfl rfl (by first | exact i64_in ⟨by omega, by omega⟩ | rfl)) rfl rfl rfl ?_
  refine doL_v (opV_assign rfl) rfl rfl rfl ?_
  refine doL_nil ?_
  refine post_rounds ?_
  refine doR_succ ?_
  refine doC_seq ?_
  refine doC_seq ?_
  refine doC_region ?_
  refine doL_v (opV_move rfl) rfl rfl rfl ?_
  refine doL_v (opV_lss rfl rfl) rfl rfl rfl ?_
  refine doL_nil ?_
  refine post_then ?_
  refine doC_cond_t rfl (by decide) ?_
  refine doC_skip ?_
  refine post_then ?_
  refine doC_seq ?_
  refine doC_block ?_
  refine doC_seq ?_
  refine doC_all mo (by kernel_rfl) ?_
  refine doG_v (opV_move rfl) rfl rfl rfl ?_
  refine doG_v (opV_indexAddr ar34 rfl rfl (by first | decide | omega) (by first | decide | omega)) rfl rfl rfl ?_
  refine doG_v (opV_fieldAddr fa23_0 rfl) rfl rfl rfl ?_
  refine doG_v (opV_load1 1 ty2 rfl rfl rfl) rfl rfl rfl ?_
  refine doG_vg (F := vB) (opV_lss rfl rfl) rfl rfl rfl ?_; intro r12_3 hr12_3
  obtain rfl : r12_3 = false := hr12_3.trans (by rw [decide_eq_false_iff_not]; omega)
  refine doG_v (opV_move rfl) rfl rfl rfl ?_
  refine doG_v (opV_move rfl) rfl rfl rfl ?_
  refine doG_v (opV_indexAddr ar34 rfl rfl (by first | decide | omega) (by first | decide | omega)) rfl rfl rfl ?_
  refine doG_v (opV_fieldAddr fa23_0 rfl) rfl rfl rfl ?_
  refine doG_v (opV_load1 1 ty2 rfl rfl rfl) rfl rfl rfl ?_
  refine doG_v (opV_move rfl) rfl rfl rfl ?_
  refine doG_v (opV_indexAddr ar34 rfl rfl (by first | decide | omega) (by first | decide | omega)) rfl rfl rfl ?_
  refine doG_v (opV_fieldAddr fa23_1 rfl) rfl rfl rfl ?_
  refine doG_v (opV_load1 1 ty2 rfl rfl rfl) rfl rfl rfl ?_
  refine doG_vg (F := vB) (opV_gtr rfl rfl) rfl rfl rfl ?_; intro r22_3 hr22_3
  obtain rfl : r22_3 = false := hr22_3.trans (by rw [decide_eq_false_iff_not]; omega)
  refine doG_v (opV_pick_f rfl rfl rfl rfl) rfl rfl rfl ?_
  refine doG_v (opV_move rfl) rfl rfl rfl ?_
  refine doG_v (opV_move rfl) rfl rfl rfl ?_
  refine doG_v (opV_indexAddr ar34 rfl rfl (by first | decide | omega) (by first | decide | omega)) rfl rfl rfl ?_
  refine doG_v (opV_fieldAddr fa23_1 rfl) rfl rfl rfl ?_
  refine doG_v (opV_load1 1 ty2 rfl rfl rfl) rfl rfl rfl ?_
  refine doG_v (opV_gtr rfl rfl) rfl rfl rfl ?_
  refine doG_v (opV_pick_f rfl rfl rfl rfl) rfl rfl rfl ?_
  refine doG_nil ?_
  refine post_then ?_
  refine doC_cond_f rfl (by rw [decide_eq_false_iff_not]; omega) ?_
  refine doC_skip ?_
  refine post_block_normal ?_
  refine post_then ?_
  refine doC_region ?_
  refine doL_v (opV_move rfl) rfl rfl rfl ?_
  refine doL_v (opV_add rfl rfl (by first | exact i64_in ⟨by omega, by omega⟩ | rfl)) rfl rfl rfl ?_
  refine doL_v (opV_assign rfl) rfl rfl rfl ?_
  refine doL_nil ?_
  refine post_rounds ?_
  refine doR_succ ?_
  refine doC_seq ?_
  refine doC_seq ?_
  refine doC_region ?_
  refine doL_v (opV_move rfl) rfl rfl rfl ?_
  refine doL_v (opV_lss rfl rfl) rfl rfl rfl ?_
  refine doL_nil ?_
  refine post_then ?_
  refine doC_cond_f rfl (by decide) ?_
  refine doC_exit ?_
  refine post_then_exit ?_
  refine post_then_exit ?_
  refine post_block_exit ?_
  refine post_then ?_
  refine doC_seq ?_
  refine doC_region ?_
  refine doL_v (opV_assign rfl) rfl rfl rfl ?_
  refine doL_nil ?_
  refine post_then ?_
  refine doC_ret ?_
  refine post_rets (rs := [.tmp 2]) rfl (resC (resIs_tmp rfl) (resN)) (congrArg (vB) (?_ : _ = true))
  rfl
theorem rPlaced  (ap : Option Addr) (np cp : Nat) (vs : List V3) (hl : 1 ≤ np ∧ np ≤ 8) (hn : vs.length = np) (hb : ∀ x ∈ vs, BV 268435456 x) (w : World) (hT : SlcIs 6 ap (vs.map vc) w) : Calls Try.prog 74 [.slice ap np cp].toArray w (Rets (vB (true)) (w)) := by
  refine calls_of_doC (n := 28) Try.func74 rfl rfl rfl ?_
  refine doC_seq ?_
  refine doC_region ?_
  refine doL_v (opV_assign rfl) rfl rfl rfl ?_
  refine doL_nil ?_
  refine post_then ?_
  refine doC_seq ?_
  refine doC_seq ?_
  refine doC_region ?_
  refine doL_v (opV_assign rfl) rfl rfl rfl ?_
  refine doL_nil ?_
  refine post_then ?_
  refine doC_block ?_
  refine doC_loopK [0] [] (α := Nat) (fun x => np - x) (fun x => x ≤ np) (fun _ => ⟨w, []⟩) (fun x => [(3, .int .i64 (x : Int))]) (fun _ => []) 0 rfl rfl ?_ ?_ ?_ ?_ rfl ?_
  ·
    exact Nat.zero_le _
  ·
    exact rfl
  ·
    repeat' first | exact trivial | exact True.intro | refine ⟨rfl, ?_⟩
  ·
    repeat' first | exact trivial | exact True.intro | refine ⟨rfl, ?_⟩
  rintro k hk
  try dsimp only at hk ⊢
  refine doC_seq ?_
  refine doC_seq ?_
  refine doC_region ?_
  refine doL_v (opV_move rfl) rfl rfl rfl ?_
  refine doL_v (opV_move rfl) rfl rfl rfl ?_
  refine doL_v (opV_len_slice sl101 rfl) rfl rfl rfl ?_
  refine doL_v (opV_lss rfl rfl) rfl rfl rfl ?_
  refine doL_v (opV_move rfl) rfl rfl rfl ?_
  refine doL_split 8 rfl (fun hg8 => ?_) (fun hg8 => ?_)
  ·
    have h2 : k < np := by have := of_decide_eq_true hg8; omega
    obtain ⟨v, hvk⟩ : ∃ v, vs[k]? = some v := ⟨_, List.getElem?_eq_getElem (by omega)⟩
    have hv : (vs.map vc)[k]? = some (vc v) := by rw [List.getElem?_map, hvk]; rfl
    obtain ⟨b1, b2, b3⟩ := hb v (List.mem_of_getElem? hvk)
    refine doL_v (opV_move rfl) rfl rfl rfl ?_
    refine doL_v (opV_leq rfl rfl) rfl rfl rfl ?_
    refine doL_v (opV_pick_t rfl rfl rfl rfl) rfl rfl rfl ?_
    refine doL_nil ?_
    refine post_then ?_
    refine doC_cond_t rfl (decide_eq_true (by omega)) ?_
    refine doC_skip ?_
    refine post_then ?_
    refine doC_seq ?_
    refine doC_block ?_
    refine doC_seq ?_
    refine doC_region ?_
    refine doL_v (opV_move rfl) rfl rfl rfl ?_
    refine doL_v (opV_move rfl) rfl rfl rfl ?_
    refine doL_v (opV_indexS (e := 34) (holds_base hT) (by kernel_rfl) rfl rfl rfl hv h2) rfl rfl rfl ?_
    refine doL_v (opV_loadSA (vs := vc v) k 0 (holds_base hT) hv ty34 rfl rfl) rfl rfl rfl ?_
    refine doL_vg (F := vB) (opV_call en112 rfl (fun w _ => rReached _ _ _ _ _ _ b1 b2 b3 w)) rfl rfl rfl ?_; intro r18 hr18
    refine doL_v (opV_not rfl) rfl rfl rfl ?_
    refine doL_nil ?_
    refine post_then ?_
    refine doC_cond_f rfl (by rw [hr18]; rfl) ?_
    refine doC_skip ?_
    refine post_block_normal ?_
    refine post_then ?_
    refine doC_region ?_
    refine doL_v (opV_move rfl) rfl rfl rfl ?_
    refine doL_v (opV_add rfl rfl (inc_nat (by omega))) rfl rfl rfl ?_
    refine doL_v (opV_assign rfl) rfl rfl rfl ?_
    refine doL_nil ?_
    refine post_again (k + 1) (by show k + 1 ≤ np; omega) (by show np - (k + 1) < np - k; omega) rfl ?_ ?_ rfl
    repeat' first | exact trivial | exact True.intro | refine ⟨rfl, ?_⟩
  ·
    refine doL_skip rfl rfl rfl ?_
    refine doL_skip rfl rfl rfl ?_
    refine doL_v (opV_pick_f rfl rfl rfl rfl) rfl rfl rfl ?_
    refine doL_nil ?_
    refine post_then ?_
    refine doC_cond_f rfl (rfl) ?_
    refine doC_exit ?_
    refine post_then_exit ?_
    refine post_then_exit ?_
    refine post_block_exit ?_
    refine post_then ?_
    refine doC_seq ?_
    refine doC_region ?_
    refine doL_v (opV_move rfl) rfl rfl rfl ?_
    refine doL_v (opV_len_slice sl101 rfl) rfl rfl rfl ?_
    refine doL_v (opV_geq rfl rfl) rfl rfl rfl ?_
    refine doL_v (opV_move rfl) rfl rfl rfl ?_
    refine doL_true 23 rfl (decide_eq_true (by omega)) ?_
    refine doL_v (opV_move rfl) rfl rfl rfl ?_
    refine doL_v (opV_len_slice sl101 rfl) rfl rfl rfl ?_
    refine doL_v (opV_leq rfl rfl) rfl rfl rfl ?_
    refine doL_v (opV_pick_t rfl rfl rfl rfl) rfl rfl rfl ?_
    refine doL_v (opV_assign rfl) rfl rfl rfl ?_
    refine doL_nil ?_
    refine post_then ?_
    refine doC_ret ?_
    refine post_rets (rs := [.tmp 2]) rfl (resC (resIs_tmp rfl) (resN)) (congrArg (vB) (?_ : _ = true))
    exact decide_eq_true (by omega)
end Go.Proofs.Ytonampcmhhhffaa
namespace Go.Proofs.Ytonampcmhhhffaa
open Go.Sx Go.RowKit
theorem made_off (l : List Int) : ∀ j ∈ (jsOf l 0 (nJ l 0)).1, ZB j.off := fun j hj => by
  obtain ⟨k, hk⟩ := List.mem_iff_getElem?.1 hj
  obtain ⟨_, _, _, _, _, _, _, _, h1, h2, h3, _⟩ := made_JOK l 0 (nJ l 0) (nJ_b l 0).2.1 k j hk
  exact ⟨h1, h2, h3⟩
theorem made_ns (l : List Int) : (shB l (obN l)).1.length ≤ 6 := by
  have h1 := shB_len l (obN l)
  have h2 := nJ_b l 0
  have h3 := obN_b l
  omega
theorem madePoints {l : List Int} {x : ScX} {ab : Option Addr} {cb : Nat} {bx : List Iv} (w : World) (hx : scP l x) (hb : bx.length = nJ l 0) (hv : ∀ a ∈ bx, Iv.valid a = true) (hF : scF l x w) (hT : SlcIs 2 ab (bx.map ivc) w) :
    Calls Try.prog 73 [scV l x, .slice ab (nJ l 0) cb].toArray w (RetsF (X := Nat × List Nat) (fun y => y.2.length = (shB l (obN l)).1.length) (fun y => .slice (some ⟨y.1, 0, none⟩) (shB l (obN l)).1.length (shB l (obN l)).1.length)
      (fun y w => SlcIs 1 (some ⟨y.1, 0, none⟩) (plRows (ptsP (lks (jsOf l 0 (nJ l 0)).1 bx (nJ l 0)) (shB l (obN l)).1) y.2) w ∧ PlF (ptsP (lks (jsOf l 0 (nJ l 0)).1 bx (nJ l 0)) (shB l (obN l)).1) y.2 w) w) := by
  have hn := nJ_b l 0
  have hm := nM_b l 0
  have hs := made_ns l
  obtain ⟨k1, k2, k3⟩ := skR_ok l
  obtain ⟨⟨f1, f2⟩, ⟨f3, f4⟩, f5⟩ := hF
  exact kPoints x.1.1 x.2.1.1 x.2.2.1.1 x.2.2.2.1.1 x.1.2 (nM l 0) x.2.1.2 x.2.2.1.2 x.2.2.2.1.2 (nJ l 0) (shB l (obN l)).1.length (skN l) (jsOf l 0 (nJ l 0)).1 (msOf l 0 (nM l 0)) (shB l (obN l)).1 x.2.2.2.2 (skR l) ab cb bx
    (by omega) (by omega) (jsOf_len _ _ _) (msOf_len _ _ _) rfl hx (by omega) k2 k1 (fun i j h => made_JOK l 0 (nJ l 0) hn.2.1 i j h) (fun m h => msOf_get l 0 _ m h) (shB_ok l _) k3 hb hv w f1 f2 f3 f4 f5 hT
end Go.Proofs.Ytonampcmhhhffaa
namespace Go.Proofs.Ytonampcmhhhffaa
open Go.Sx
theorem en56 : Enters Try.prog 56 := enters_of Try.func56 (by kernel_rfl) (by kernel_rfl)
theorem en57 : Enters Try.prog 57 := enters_of Try.func57 (by kernel_rfl) (by kernel_rfl)
theorem en73 : Enters Try.prog 73 := enters_of Try.func73 (by kernel_rfl) (by kernel_rfl)
theorem sl98 : slcB Try.prog 98 101 1 = true := by kernel_rfl
theorem en74 : Enters Try.prog 74 := enters_of Try.func74 (by kernel_rfl) (by kernel_rfl)
theorem en58 : Enters Try.prog 58 := enters_of Try.func58 (by kernel_rfl) (by kernel_rfl)
theorem wKPlaced (lv : Value) (l : List Int) (ov : Value) (o : List Int) (w : World) (hl : IntsAt w w.heap.size lv l) (ho : IntsAt w w.heap.size ov o) : Calls Try.prog 21 [lv, ov].toArray w (Rets (vB (true)) (w)) := by
  refine calls_of_doC (n := 35) Try.func21 rfl rfl rfl ?_
  refine doC_seq ?_
  refine doC_region ?_
  refine doL_v (opV_assign rfl) rfl rfl rfl ?_
  refine doL_nil ?_
  refine post_then ?_
  refine doC_seq ?_
  refine doC_region ?_
  refine doL_v (opV_move rfl) rfl rfl rfl ?_
  refine doL_told 9 en56 rfl (fun w' k => mkScene _ l w' (intsAt_grow hl k.grow k.grow.size)) rfl rfl ?_; intro x9 Dx9 _
  have hn := nJ_b l 0
  have hjl := jsOf_len l 0 (nJ l 0)
  refine doL_alloc 5 ze78 rfl rfl rfl ?_; intro b5
  refine doL_store 5 ty78 rfl rfl rfl rfl rfl rfl rfl rfl ?_
  refine doL_nil ?_
  refine post_then ?_
  refine doC_seq ?_
  refine doC_drawn 5 mo (by kernel_rfl) ?_
  simp only [List.take_succ_cons, List.take_zero, List.drop_succ_cons, List.drop_zero]
  refine doG_v (opV_loadA 5 ty78 rfl rfl rfl) rfl rfl rfl ?_
  refine doG_v (opV_fieldAddr fa78_0 rfl) rfl rfl rfl ?_
  refine doG_v (opV_loadA 5 ty74 rfl rfl rfl) rfl rfl rfl ?_
  refine doG_v (opV_move rfl) rfl rfl rfl ?_
  refine doG_told en57 rfl (fun w' k => madeBox w' (intsAt_grow ho k.grow k.grow.size) (((holds_r (id := 9) rfl) _ _ k).1.1)) rfl rfl rfl ?_
  refine doG_nil ?_
  refine tail_tell 14 rfl rfl rfl ?_; intro x14 D14 _
  refine tail_nil ?_
  refine doL_told 15 en73 rfl (fun w' k => madePoints (x := x9) w' (by assumption) (bxs_length (l := o) (js := (jsOf l 0 (nJ l 0)).1) (nJ l 0) (by omega)) (bxs_valid (l := o) (js := (jsOf l 0 (nJ l 0)).1) (jsOf_b l 0 _) (nJ l 0)) ((holds_r (id := 9) rfl) _ _ k) ((holds_r (id := 14) rfl) _ _ k)) rfl rfl ?_; intro x15 Dx15 _
  have hbb := bxs_bd (l := o) (js := (jsOf l 0 (nJ l 0)).1) (jsOf_b l 0 _) (nJ l 0)
  have hbl : (bxs o (jsOf l 0 (nJ l 0)).1 (nJ l 0)).1.length = nJ l 0 := bxs_length (l := o) (js := (jsOf l 0 (nJ l 0)).1) (nJ l 0) (by omega)
  have hxl : x15.2.length = (shB l (obN l)).1.length := by assumption
  generalize (bxs o (jsOf l 0 (nJ l 0)).1 (nJ l 0)).1 = bx at *
  have hbv := bv_pts (js := (jsOf l 0 (nJ l 0)).1) (bx := bx) hn.2.1 (made_off l) hbb (shB_ok l (obN l))
  have hvl : (ptsP (lks (jsOf l 0 (nJ l 0)).1 bx (nJ l 0)) (shB l (obN l)).1).length = (shB l (obN l)).1.length := by simp [ptsP]
  have hnsl := made_ns l
  refine doL_v (opV_assign rfl) rfl rfl rfl ?_
  refine doL_nil ?_
  refine post_then ?_
  refine doC_seq ?_
  refine doC_seq ?_
  refine doC_region ?_
  refine doL_v (opV_move rfl) rfl rfl rfl ?_
  refine doL_v (opV_len_slice sl98 rfl) rfl rfl rfl ?_
  refine doL_v (opV_fieldAddr fa78_1 rfl) rfl rfl rfl ?_
  refine doL_v (opV_load1 5 ty75 rfl rfl rfl) rfl rfl rfl ?_
  refine doL_v (opV_len_slice sl75 rfl) rfl rfl rfl ?_
  refine doL_v (opV_neq rfl rfl) rfl rfl rfl ?_
  refine doL_nil ?_
  refine post_then ?_
  refine doC_cond_f rfl (by simp) ?_
  refine doC_skip ?_
  refine post_then ?_
  refine doC_seq ?_
  refine doC_seq ?_
  refine doC_region ?_
  refine doL_v (opV_assign rfl) rfl rfl rfl ?_
  refine doL_nil ?_
  refine post_then ?_
  refine doC_block ?_
  refine doC_loopK [6] [] (α := Nat) (fun x => (shB l (obN l)).1.length - x) (fun x => x ≤ (shB l (obN l)).1.length) (fun _ => _) (fun x => [(7, .int .i64 (x : Int))]) (fun _ => []) 0 rfl rfl ?_ rfl ?_ ?_ rfl ?_
  ·
    exact Nat.zero_le _
  ·
    repeat' first | exact trivial | exact True.intro | refine ⟨rfl, ?_⟩
  ·
    repeat' first | exact trivial | exact True.intro | refine ⟨rfl, ?_⟩
  rintro i hi
  try dsimp only at hi ⊢
  refine doC_seq ?_
  refine doC_seq ?_
  refine doC_region ?_
  refine doL_v (opV_move rfl) rfl rfl rfl ?_
  refine doL_v (opV_move rfl) rfl rfl rfl ?_
  refine doL_v (opV_len_slice sl98 rfl) rfl rfl rfl ?_
  refine doL_v (opV_lss rfl rfl) rfl rfl rfl ?_
  refine doL_nil ?_
  refine post_then ?_
  refine doC_cond rfl (fun hc25 => ?_) (fun hc25 => ?_)
  ·
    have h2 : i < (shB l (obN l)).1.length := by have := of_decide_eq_true hc25; omega
    obtain ⟨v, hvi⟩ : ∃ v, (ptsP (lks (jsOf l 0 (nJ l 0)).1 bx (nJ l 0)) (shB l (obN l)).1)[i]? = some v := ⟨_, List.getElem?_eq_getElem (by omega)⟩
    obtain ⟨b, hbi⟩ : ∃ b, x15.2[i]? = some b := ⟨_, List.getElem?_eq_getElem (by omega)⟩
    have hrow := plRows_get _ _ i v b hvi hbi
    obtain ⟨q1, q2⟩ := hbv v (List.mem_of_getElem? hvi)
    refine doC_skip ?_
    refine post_then ?_
    refine doC_seq ?_
    refine doC_block ?_
    refine doC_seq ?_
    refine doC_region ?_
    refine doL_v (opV_move rfl) rfl rfl rfl ?_
    refine doL_v (opV_move rfl) rfl rfl rfl ?_
    refine doL_v (opV_indexS (e := 101) ((holds_r (id := 15) rfl).imp fun _ h => h.1) (by kernel_rfl) rfl rfl rfl hrow h2) rfl rfl rfl ?_
    refine doL_v (opV_loadS1 i 0 ((holds_r (id := 15) rfl).imp fun _ h => h.1) hrow ty101 rfl rfl) rfl rfl rfl ?_
    refine doL_vg (F := vB) (opV_call en74 rfl (fun w' k => rPlaced _ v.length _ v q1 rfl q2 w' (PlF_get _ _ i v b w' hvi hbi (((holds_r (id := 15) rfl) _ _ k).2)))) rfl rfl rfl ?_; intro r32 hr32
    refine doL_v (opV_not rfl) rfl rfl rfl ?_
    refine doL_nil ?_
    refine post_then ?_
    refine doC_cond_f rfl (by rw [hr32]; rfl) ?_
    refine doC_skip ?_
    refine post_block_normal ?_
    refine post_then ?_
    refine doC_region ?_
    refine doL_v (opV_move rfl) rfl rfl rfl ?_
    refine doL_v (opV_add rfl rfl (inc_nat (by omega))) rfl rfl rfl ?_
    refine doL_v (opV_assign rfl) rfl rfl rfl ?_
    refine doL_nil ?_
    refine post_again (i + 1) (by show i + 1 ≤ (shB l (obN l)).1.length; omega) (by show (shB l (obN l)).1.length - (i + 1) < (shB l (obN l)).1.length - i; omega) rfl ?_ ?_ rfl
    repeat' first | exact trivial | exact True.intro | refine ⟨rfl, ?_⟩
  ·
    refine doC_exit ?_
    refine post_then_exit ?_
    refine post_then_exit ?_
    refine post_block_exit ?_
    refine post_then ?_
    refine doC_seq ?_
    refine doC_region ?_
    refine doL_vg (F := vB) (opV_call en58 rfl (fun w _ => awake11   w)) rfl rfl rfl ?_; intro r34 hr34
    refine doL_v (opV_assign rfl) rfl rfl rfl ?_
    refine doL_nil ?_
    refine post_then ?_
    refine doC_ret ?_
    refine post_rets (rs := [.tmp 4]) rfl (resC (resIs_tmp rfl) (resN)) (congrArg (vB) (?_ : _ = true))
    exact hr34
end Go.Proofs.Ytonampcmhhhffaa

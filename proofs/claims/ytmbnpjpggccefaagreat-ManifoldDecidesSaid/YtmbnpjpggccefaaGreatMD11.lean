/- Part 11 of the texts behind the last one: rules and contracts. No condition. -/
import Derived.Test.YtmbnpjpggccefaaGreatMD10
namespace Go.Rx
open Go.RowKit Go.Sx
theorem own_mem {D : Nat → Prop} {G : World → Prop} {e sz cap k : Nat} {a : Option Addr} {ys : List Value} {w : World} (hd : qVU D G) (hG : G w) (hi : ∀ w, G w → OwnF 0 e sz a cap k ys w) : ∀ ad, a = some ad → D ad.block := by
 rintro ad rfl
 apply Classical.byContradiction
 intro hn
 obtain ⟨_, h1⟩ := hi w hG
 rcases h1 with ⟨h1, _⟩ | ⟨g, cp, cur, hv, _, hb, _, _, hs, _⟩
 ·cases h1
 ·simp only [Value.slice.injEq, Option.some.injEq] at hv
  obtain ⟨rfl, _, rfl⟩ := hv
  have hlt : g < w.heap.size := uH hb
  have hG' : G { w with heap := w.heap.setIfInBounds g (.cells (cur.push (.bool true)) e (0, 0)) } := hd w _ (fun k hk => by
   have e : g ≠ k := fun e => hn (e ▸ hk)
   show (w.heap.setIfInBounds g _)[k]? = _
   exact Array.getElem?_setIfInBounds_ne e) hG
  obtain ⟨_, h2⟩ := hi _ hG'
  rcases h2 with ⟨h2, _⟩ | ⟨g', cp', cur', hv', _, hb', _, _, hs', _⟩
  ·cases h2
  ·simp only [Value.slice.injEq, Option.some.injEq, Addr.mk.injEq] at hv'
   obtain ⟨⟨rfl, _⟩, _, rfl⟩ := hv'
   have hb2 : (w.heap.setIfInBounds g (.cells (cur.push (.bool true)) e (0, 0)))[g]? = some (.cells cur' e (0, 0)) := hb'
   rw [Array.getElem?_setIfInBounds_self_of_lt hlt] at hb2
   simp only [Option.some.injEq, Obj.cells.injEq] at hb2
   rw [← hb2.1, Array.size_push, hs] at hs'
   omega
theorem rets_ownslc {Φ : Option Addr × Nat → Prop} {e n sz : Nat} {rows : List (List Value)} {ys : List Value} {w w' : World} {en : Ending} (hs : ∀ a c w, OwnF 0 e sz a c n ys w → SlcIs sz a rows w)
  (h : RetsF Φ (fun x => .slice x.1 n x.2) (fun x => OwnF 0 e sz x.1 x.2 n ys) w en w') : RetsF Φ (fun x => .slice x.1 n x.2) (fun x => SlcIs sz x.1 rows) w en w' := by
 obtain ⟨x, hx, he, hg, D, h1, h2, h3⟩ := h
 exact ⟨x, hx, he, hg, ownD x.1, slc_dep _ _ _, fun k ⟨ad, ha, hk⟩ => h2 k (hk ▸ own_mem h1 h3 (fun _ h => h) ad ha), hs _ _ _ h3⟩
theorem al_flat {F : Nat → Prop} {w : World} {sz : Nat} {rows : List (List PV)} (hs : qVG sz rows = true) : Al (Al (RP F w)) rows (qUX rows) ∧ (∀ v ∈ qUX rows, ∀ u ∈ v, u.oneCell' = true) := by
 unfold qUX
 refine ⟨⟨by simp, fun i r v hr hv => ?_⟩, fun v hv u hu => ?_⟩
 ·rw [List.getElem?_map, hr] at hv
  cases hv
  refine ⟨by simp, fun j p u hp hu => ?_⟩
  rw [List.getElem?_map, hp] at hu
  cases hu
  exact (val1_rp ((flatRows_at hs (List.mem_of_getElem? hr)).2 p (List.mem_of_getElem? hp))).1
 ·obtain ⟨r, hr, rfl⟩ := List.mem_map.1 hv
  obtain ⟨p, hp, rfl⟩ := List.mem_map.1 hu
  exact (val1_rp (F := F) (w := w) ((flatRows_at hs hr).2 p hp)).2
theorem snd_toldOw {P : Program} {f : Nat} {ps : List PV} {e sz : Nat} {rows : List (List PV)} {Φ : Option Addr × Nat → Prop} (hent : yG P f) (hs : qVG sz rows = true) (h0 : 0 < sz)
  (h : ∀ (w : World) (F : Nat → Prop) (vals : List Value), (∀ k, F k → k < w.heap.size) → Al (RP F w) ps vals → Calls P f vals.toArray w (RetsF Φ (fun x => .slice x.1 rows.length x.2) (fun x => OwnF 0 e sz x.1 x.2 rows.length (qUX rows).flatten) w)) : SndA1 P f ps (.ow e sz rows) := by
 refine ⟨hent, fun w F vals hF hal => (h w F vals hF hal).mono ?_⟩
 rintro en w' ⟨x, hx, rfl, hg, D, h1, h2, h3⟩
 have hal := al_flat (F := F) (w := w') hs
 refine ⟨_, F, rfl, hg, fun k hk => hk, fun k hk => .inl hk, x.1, x.2, qUX rows, rfl, h0, hal.1, fun r hr => (flatRows_at hs hr).1, hal.2, h3, fun b hb => ?_⟩
 obtain ⟨ad, ha, rfl⟩ := Option.map_eq_some_iff.1 hb
 have hD := h2 _ (own_mem h1 h3 (fun _ h => h) ad ha)
 exact ⟨fun hk => by have := hF _ hk; omega, hD.1, hD.2⟩
end Go.Rx
namespace Go.Sx
def JB (j : J) : Prop := -1000000 ≤ j.lo ∧ j.lo ≤ j.hi ∧ j.hi ≤ 1000000
theorem jointOf_b (L : List Int) (p : Nat) (k : Int) : JB (qVK L p k).1 := by
 by_cases h0 : qQY (srcR L (p + 2) 8) = 0
 ·rw [jointOf_fix h0]
  exact ⟨by show (-1000000 : Int) ≤ 0; omega, by show (0 : Int) ≤ 0; omega, by show (0 : Int) ≤ 1000000; omega⟩
 ·by_cases h : qQY (srcR L (p + 2) 8) = 4 ∨ qQY (srcR L (p + 2) 8) = 5
  ·rw [qKH h]
   have a := qVW L (jQ p k) (k := 3) (by decide)
   have b := qVW L (jQ p k + 1) (k := 4) (by decide)
   unfold JB
   dsimp only
   omega
  ·rw [jointOf_tu h0 h]
   have a := qVW L (jQ p k) (k := 5) (by decide)
   have b := qVW L (jQ p k + 1) (k := 4) (by decide)
   have c := qVW L (jQ p k + 2) (k := 3) (by decide)
   unfold JB
   dsimp only
   rw [Int.tdiv_eq_ediv_of_nonneg (a := (1 + srcR L (jQ p k + 1) 4) * 65536) (by omega), show (-srcR L (jQ p k) 5 * 65536).tdiv 8 = -(srcR L (jQ p k) 5 * 8192) by
    rw [show -srcR L (jQ p k) 5 * 65536 = -(srcR L (jQ p k) 5 * 8192) * 8 by omega]
    exact Int.mul_tdiv_cancel _ (by decide)]
   omega
theorem jsOf_b (L : List Int) (i : Nat) : ∀ k, ∀ j ∈ (jsOf L i k).1, JB j
 | 0, j, h => by cases h
 | k + 1, j, h => by
  rcases List.mem_append.1 (show j ∈ (jsOf L i k).1 ++ [(qVK L (jsOf L i k).2 (k : Int)).1] from h) with h | h
  ·exact jsOf_b L i k j h
  ·obtain rfl := List.mem_singleton.1 h
   exact jointOf_b _ _ _
def ivc (v : Iv) : List Value := [.int .i64 v.lo, .int .i64 v.hi]
def bxW (l : List Int) (q : Nat) (d : Int) : Int × Nat :=
 if srcR l q 5 = 0 then (d, q + 1) else if srcR l q 5 = 1 ∨ srcR l q 5 = 2 then (srcR l (q + 1) 3000, q + 2) else if srcR l q 5 = 3 then (srcR l (q + 1) 200, q + 2) else (0, q + 1)
def bxLo (l : List Int) (q : Nat) (j : J) : Int := j.lo + srcR l q (j.hi - j.lo + 1)
def bxs (l : List Int) (js : List J) : Nat → List Iv × Nat
 | 0 => ([], 0)
 | k + 1 => match js[k]? with
  | some j => ((bxs l js k).1 ++ [⟨bxLo l (bxs l js k).2 j, min j.hi (bxLo l (bxs l js k).2 j + (bxW l ((bxs l js k).2 + 1) (j.hi - j.lo)).1)⟩], (bxW l ((bxs l js k).2 + 1) (j.hi - j.lo)).2)
  | none => bxs l js k
theorem bx_step {l : List Int} {js : List J} {k q : Nat} {j : J} {rows : List Iv} {r x : Int} {q2 : Nat} (hjk : js[k]? = some j) (h : bxs l js k = (rows, q)) (hr : r = srcR l q (j.hi - j.lo + 1)) (hw : bxW l (q + 1) (j.hi - j.lo) = (x, q2)) :
  bxs l js (k + 1) = (rows ++ [⟨j.lo + r, min j.hi (j.lo + r + x)⟩], q2) := by
 simp only [bxs, hjk, h, hw, bxLo, ← hr]
theorem bxW_0 {l : List Int} {q : Nat} {d r : Int} (hr : r = srcR l q 5) (h : r = 0) : bxW l q d = (d, q + 1) := if_pos (hr ▸ h)
theorem bxW_1 {l : List Int} {q : Nat} {d r x : Int} (hr : r = srcR l q 5) (h : r = 1 ∨ r = 2) (hx : x = srcR l (q + 1) 3000) : bxW l q d = (x, q + 1 + 1) := by
 unfold bxW
 rw [← hr, if_neg (by omega), if_pos h, hx]
theorem bxW_3 {l : List Int} {q : Nat} {d r x : Int} (hr : r = srcR l q 5) (h : r = 3) (hx : x = srcR l (q + 1) 200) : bxW l q d = (x, q + 1 + 1) := by
 unfold bxW
 rw [← hr, if_neg (by omega), if_neg (by omega), if_pos h, hx]
theorem bxW_4 {l : List Int} {q : Nat} {d r : Int} (hr : r = srcR l q 5) (h0 : ¬ r = 0) (h1 : ¬ r = 1) (h2 : ¬ r = 2) (h3 : ¬ r = 3) : bxW l q d = (0, q + 1) := by
 unfold bxW
 rw [← hr, if_neg h0, if_neg (by omega), if_neg h3]
def ivC (rows : List Iv) : List Value := (rows.map ivc).flatten
theorem ivC_snoc (rows : List Iv) (v : Iv) : ivC (rows ++ [v]) = ivC rows ++ ivc v := by simp [ivC]
theorem rows2 (l : List Iv) : ∀ r ∈ l.map ivc, r.length = 2 := fun r hr => by
 obtain ⟨v, _, rfl⟩ := List.mem_map.1 hr
 rfl
theorem iv_slc {rows : List Iv} {k cap : Nat} {a : Option Addr} {e : TypeId} {w : World} (hl : rows.length = k) (h : OwnF 0 e 2 a cap k (ivC rows) w) : SlcIs 2 a (rows.map ivc) w := by
 refine zQY (m := 0) (e := e) (cap := cap) (rows2 _) ?_
 rw [List.length_map, hl]
 exact h
end Go.Sx
namespace Go.Sx
section
variable {P : Program} {w0 : Base} {S : Slots} {H : Heap} {d : Option Tmp} {ty : TypeId} {pos : String} {af : Array Edge} {g : Option (Nat × Bool)}
def fldB (P : Program) (s f off : Nat) : Bool :=
 match P.underlying s with
 | some (.struct fields) => match fields[f]? with
  | some fld => fld.offset == off && tyB P fld.type false 1
  | none => false
 | _ => false
theorem opV_field1 {s f off' : Nat} {x : Operand} {vs : Array Value} {v : Value} (hF : fldB P s f off' = true) (hx : ev S x = some (.agg vs)) (hv : vs[off']? = some v) :
  OpV P w0 S H ⟨d, .field s x f, ty, pos, af, g⟩ v :=
 kG (by simp [jK, Op.operands, hx]) rfl fun w _ => by
  unfold fldB at hF
  cases hu : P.underlying s with
  | none => simp [hu] at hF
  | some ds =>
   cases ds <;> simp [hu] at hF
   rename_i fields
   cases hf : fields[f]? with
   | none => simp [hf] at hF
   | some fld =>
    simp [hf] at hF
    obtain ⟨h1, h2⟩ := hF
    subst h1
    simp [execOp, yW hx, Instr.field, run_underlying hu, hf, asAgg, part, qWG h2, hv]
end
def motV (ft fs fr : Nat) (k : Int) : Value := .agg #[.func (.func (if k = 1 ∨ k = 2 ∨ k = 3 then ft else if k = 4 ∨ k = 5 ∨ k = 6 then fs else fr)) #[.int .i64 (if k = 1 ∨ k = 2 ∨ k = 3 then k - 1 else if k = 4 ∨ k = 5 ∨ k = 6 then k - 4 else 0)] #[]]
theorem mot_t {ft fs fr : Nat} {k : Int} (h : k = 1 ∨ k = 2 ∨ k = 3) : motV ft fs fr k = .agg #[.func (.func ft) #[.int .i64 (k - 1)] #[]] := by
 unfold motV; rw [if_pos h, if_pos h]
theorem mot_s {ft fs fr : Nat} {k : Int} (h : k = 4 ∨ k = 5 ∨ k = 6) : motV ft fs fr k = .agg #[.func (.func fs) #[.int .i64 (k - 4)] #[]] := by
 have h2 : ¬ (k = 1 ∨ k = 2 ∨ k = 3) := by omega
 unfold motV; rw [if_neg h2, if_neg h2, if_pos h, if_pos h]
theorem mot_r {ft fs fr : Nat} {k : Int} (h : ¬ (k = 1 ∨ k = 2 ∨ k = 3)) (h2 : ¬ (k = 4 ∨ k = 5 ∨ k = 6)) : motV ft fs fr k = .agg #[.func (.func fr) #[.int .i64 0] #[]] := by
 unfold motV; rw [if_neg h, if_neg h, if_neg h2, if_neg h2]
def V3.put (k : Int) (a : Iv) : V3 := if k = 0 then ⟨a, iv0, iv0⟩ else if k = 1 then ⟨iv0, a, iv0⟩ else ⟨iv0, iv0, a⟩
def jMot (k : Int) (a : Iv) : Po := if k = 1 ∨ k = 2 ∨ k = 3 then Po.turn (k - 1) a else if k = 4 ∨ k = 5 ∨ k = 6 then Po.shift (V3.put (k - 4) a) else Po.rest
theorem jMot_t {k : Int} {a : Iv} (h : k = 1 ∨ k = 2 ∨ k = 3) : jMot k a = Po.turn (k - 1) a := if_pos h
theorem jMot_s {k : Int} {a : Iv} (h : k = 4 ∨ k = 5 ∨ k = 6) : jMot k a = Po.shift (V3.put (k - 4) a) := by
 have h2 : ¬ (k = 1 ∨ k = 2 ∨ k = 3) := by omega
 unfold jMot; rw [if_neg h2, if_pos h]
theorem jMot_r {k : Int} {a : Iv} (h : ¬ (k = 1 ∨ k = 2 ∨ k = 3)) (h2 : ¬ (k = 4 ∨ k = 5 ∨ k = 6)) : jMot k a = Po.rest := by
 unfold jMot; rw [if_neg h, if_neg h2]
def jPose (k : Int) (o : Z3) (a : Iv) : Po := Po.mul (Po.shift (V3.of o)) (jMot k a)
end Go.Sx
namespace Go.Proofs.YtmbnpjpggccefaaGreat
open Go.Sx
theorem la110 : qZW Tryz.prog 110 = some ([.slice none 0 0, .int .i64 0], [(0, 1), (1, 1)]) := by kernel_rfl
theorem fa110_1 : qUK Tryz.prog 110 1 1 = true := by kernel_rfl
theorem ty3 : tyB Tryz.prog 3 false 1 = true := by kernel_rfl
theorem fa110_0 : qUK Tryz.prog 110 0 0 = true := by kernel_rfl
theorem ty31 : tyB Tryz.prog 31 false 1 = true := by kernel_rfl
theorem sl31 : slcB Tryz.prog 31 3 1 = true := by kernel_rfl
theorem en15 : yG Tryz.prog 15 := zZ Tryz.func15 (by kernel_rfl) (by kernel_rfl)
theorem en27 : yG Tryz.prog 27 := zZ Tryz.func27 (by kernel_rfl) (by kernel_rfl)
theorem src_inc {i : Nat} {L : List Int} (hl : L.length ≤ 9223372036854775807) (h : i < L.length) : IntKind.i64.wrap (((min i L.length : Nat) : Int) + 1) = ((min (i + 1) L.length : Nat) : Int) := by
 refine (zX ?_).trans ?_ <;> omega
theorem src_dec {i : Nat} {L : List Int} (hl : L.length ≤ 9223372036854775807) (h : i < L.length) : IntKind.i64.wrap (((min (i + 1) L.length : Nat) : Int) - 1) = (i : Int) := by
 refine (zX ?_).trans ?_ <;> omega
theorem src_out {w : World} {b i : Nat} {sl : Value} {L : List Int} (h : L.length ≤ i) : srcW w b sl L i = srcW w b sl L (i + 1) := by
 unfold srcW srcC
 rw [show min i L.length = min (i + 1) L.length by omega]
theorem src_outB {B : Base} {b i : Nat} {sl : Value} {L : List Int} (h : L.length ≤ i) : srcB B b sl L i = srcB B b sl L (i + 1) := by
 unfold srcB; rw [src_out h]
theorem srcR_out {i : Nat} {L : List Int} (k : Int) (h : L.length ≤ i) : (0 : Int) = srcR L i k := by
 unfold srcR
 simp [List.getD_eq_getElem?_getD, List.getElem?_eq_none h]
theorem mFrom0  (a : Option Addr) (cap : Nat) (L : List Int) (w : World) : Calls Tryz.prog 25 [.slice a L.length cap].toArray w (RetsT (NewT w (srcC (.slice a L.length cap) L 0) 110) w) := by
 refine zK (n := 6) Tryz.func25 rfl rfl rfl ?_
 refine qK ?_
 refine qZ ?_
 refine qY (qW rfl) rfl rfl rfl ?_
 refine qJ ?_
 refine qQ ?_
 refine qK ?_
 refine qZ ?_
 refine qY (qU rfl) rfl rfl rfl ?_
 refine qY (zU la110 rfl rfl) rfl rfl rfl ?_
 refine jJ 5 rfl rfl rfl rfl ?_; intro b5
 refine qY (qW rfl) rfl rfl rfl ?_
 refine qJ ?_
 refine qQ ?_
 refine zV ?_
 refine qJQ (rs := [.tmp 2]) rfl (resC (yH rfl) (resN)) rfl ?_
 intro w2 k
 rw [srcC_zero]
 exact ⟨_, rfl, k.grow, _, rfl, (k.at (i := 5) rfl).1, (k.at (i := 5) rfl).2⟩
theorem mFrom {sl : Value} {L : List Int} {m : Nat} (w : World) (h : IntsAt w m sl L) : Calls Tryz.prog 25 [sl].toArray w (RetsT (NewT w (srcC sl L 0) 110) w) := by
 obtain ⟨_, a, cap, rfl, _⟩ := h
 exact mFrom0 a cap L w
theorem kZ {b : Nat} {sl : Value} {L : List Int} {i : Nat} (k : Int) (hk : 0 < k ∧ k ≤ 9223372036854775807) (w : World) (hs : Src w b sl L i) : Calls Tryz.prog 27 [.pointer (some ⟨b, 0, none⟩), .int .i64 k].toArray w (Rets (vI (srcR L i k)) (srcW w b sl L (i + 1))) := by
 refine calls_src (n := 35) hs Tryz.func27 rfl rfl rfl ?_
 refine qK ?_
 obtain ⟨t0, hb⟩ := hs.blk
 obtain ⟨hlen, a, cap, rfl, hcell⟩ := hs.ints
 refine qZ ?_
 refine qY (qW rfl) rfl rfl rfl ?_
 refine qJ ?_
 refine qQ ?_
 refine qK ?_
 refine qK ?_
 refine jV 9 mo (by kernel_rfl) ?_
 simp only [List.take_succ_cons, List.take_zero, List.drop_succ_cons, List.drop_zero]
 refine zH (qU rfl) rfl rfl rfl ?_
 refine zH (opV_nilCheck rfl) rfl rfl rfl ?_
 refine zH (qX fa110_1 rfl) rfl rfl rfl ?_
 refine zH (opV_load_base (B := ⟨w, []⟩) hb ty3 rfl rfl) rfl rfl rfl ?_
 refine zH (qU rfl) rfl rfl rfl ?_
 refine zH (opV_nilCheck rfl) rfl rfl rfl ?_
 refine zH (qX fa110_0 rfl) rfl rfl rfl ?_
 refine zH (opV_load_base (B := ⟨w, []⟩) hb ty31 rfl rfl) rfl rfl rfl ?_
 refine zH (opV_len_slice sl31 rfl) rfl rfl rfl ?_
 refine uU ?_
 refine kJ ?_
 refine qY (opV_geq rfl rfl) rfl rfl rfl ?_
 refine qJ ?_
 refine qQ ?_
 refine yX rfl (fun hc14 => ?_) (fun hc14 => ?_)
 ·
  have h2 : L.length ≤ i := by have := of_decide_eq_true hc14; omega
  rw [src_outB h2]
  refine qK ?_
  refine qZ ?_
  refine qY (qW rfl) rfl rfl rfl ?_
  refine qJ ?_
  refine qQ ?_
  refine zV ?_
  refine jZ ?_
  refine zQ (rs := [.tmp 4]) rfl (resC (yH rfl) (resN)) (congrArg (vI) (?_ : _ = srcR L i k))
  exact srcR_out k h2
 ·
  have h2 : i < L.length := by have := of_decide_eq_false hc14; omega
  obtain ⟨bb, off, rfl, hbb, hcc⟩ := hcell i h2
  have hlt := uH hb
  refine yU ?_
  refine qQ ?_
  refine qK ?_
  refine qZ ?_
  refine qY (qU rfl) rfl rfl rfl ?_
  refine qY (opV_nilCheck rfl) rfl rfl rfl ?_
  refine qY (qX fa110_1 rfl) rfl rfl rfl ?_
  refine qY (opV_load_base (B := ⟨w, []⟩) hb ty3 rfl rfl) rfl rfl rfl ?_
  refine qY (jU rfl rfl (src_inc hlen h2)) rfl rfl rfl ?_
  refine qY (opV_nilCheck rfl) rfl rfl rfl ?_
  refine qY (qX fa110_1 rfl) rfl rfl rfl ?_
  refine doL_store_base (B := ⟨w, []⟩) hb ty3 rfl rfl rfl rfl rfl rfl ?_
  refine qJ ?_
  refine qQ ?_
  refine qK ?_
  refine jV 13 mo (by kernel_rfl) ?_
  simp only [List.take_succ_cons, List.take_zero, List.drop_succ_cons, List.drop_zero]
  refine zH (qU rfl) rfl rfl rfl ?_
  refine zH (opV_nilCheck rfl) rfl rfl rfl ?_
  refine zH (qX fa110_0 rfl) rfl rfl rfl ?_
  refine zH (opV_load_base (B := ⟨w, []⟩) hb ty31 rfl rfl) rfl rfl rfl ?_
  refine zH (qU rfl) rfl rfl rfl ?_
  refine zH (opV_nilCheck rfl) rfl rfl rfl ?_
  refine zH (qX fa110_1 rfl) rfl rfl rfl ?_
  refine zH (opV_load_base (B := ⟨w, []⟩) hb ty3 rfl rfl) rfl rfl rfl ?_
  refine zH (qZQ rfl rfl (src_dec hlen h2)) rfl rfl rfl ?_
  refine zH (opV_indexSlice sl31 rfl rfl (by first | decide | omega) (by first | decide | omega)) rfl rfl rfl ?_
  refine zH (opV_load1_old ty3 rfl (by simp [Base.setRow]; omega) ((cell_setRow_other _ _ _ _ (by simp; omega)).trans (by simpa using hcc))) rfl rfl rfl ?_
  refine zH (qU rfl) rfl rfl rfl ?_
  refine kK (F := vI) (zY en15 rfl (fun w _ => mRound _ _ (by first | omega | assumption | (unfold In64; omega) | decide) w)) rfl rfl rfl ?_; intro r34 hr34
  refine uU ?_
  refine kJ ?_
  refine qY (qW rfl) rfl rfl rfl ?_
  refine qJ ?_
  refine qQ ?_
  refine zV ?_
  refine zQ (rs := [.tmp 4]) rfl (resC (yH rfl) (resN)) (congrArg (vI) (?_ : _ = srcR L i k))
  exact hr34
theorem qXZ {b : Nat} {sl : Value} {L : List Int} {i : Nat} (k : Int) (hk : 0 ≤ k ∧ k ≤ 1000000000) (w : World) (hs : Src w b sl L i) : Calls Tryz.prog 29 [.pointer (some ⟨b, 0, none⟩), .int .i64 k].toArray w (Rets (vI (srcS L i k)) (srcW w b sl L (i + 1))) := by
 refine calls_src (n := 12) hs Tryz.func29 rfl rfl rfl ?_
 refine qK ?_
 refine qZ ?_
 refine qY (qW rfl) rfl rfl rfl ?_
 refine qJ ?_
 refine qQ ?_
 refine qK ?_
 refine qZ ?_
 refine qY (qU rfl) rfl rfl rfl ?_
 refine qY (qU rfl) rfl rfl rfl ?_
 refine qY (kU rfl rfl (by first | exact zX ⟨by omega, by omega⟩ | rfl)) rfl rfl rfl ?_
 refine qY (jU rfl rfl (by first | exact zX ⟨by omega, by omega⟩ | rfl)) rfl rfl rfl ?_
 refine kY (F := vI) hs en27 rfl (fun w' h => kZ _ (by first | omega | assumption | (unfold In64; omega) | decide) w' h) rfl rfl ?_; intro r9 hr9
 have br9 := uJ hr9 (by first | decide | omega)
 refine qY (qU rfl) rfl rfl rfl ?_
 refine qY (qZQ rfl rfl (by first | exact zX ⟨by omega, by omega⟩ | rfl)) rfl rfl rfl ?_
 refine qY (qW rfl) rfl rfl rfl ?_
 refine qJ ?_
 refine qQ ?_
 refine zV ?_
 refine zQ (rs := [.tmp 4]) rfl (resC (yH rfl) (resN)) (congrArg (vI) (?_ : _ = srcS L i k))
 subst_vars; rfl
end Go.Proofs.YtmbnpjpggccefaaGreat
namespace Go.Proofs.YtmbnpjpggccefaaGreat
open Go.Sx
theorem ze70 : qZY Tryz.prog 70 (.agg #[.string ByteArray.empty, .int .i64 0, .int .i64 0, .int .i64 0, .int .i64 0, .int .i64 0, .int .i64 0, .int .i64 0, .int .i64 0, .int .i64 0, .int .i64 0, .int .i64 0]) := by unfold qZY; kernel_rfl
theorem en76 : yG Tryz.prog 76 := zZ Tryz.func76 (by kernel_rfl) (by kernel_rfl)
theorem la70 : qZW Tryz.prog 70 = some ([.string ByteArray.empty, .int .i64 0, .int .i64 0, .int .i64 0, .int .i64 0, .int .i64 0, .int .i64 0, .int .i64 0, .int .i64 0, .int .i64 0, .int .i64 0, .int .i64 0], [(0, 1), (1, 1), (2, 1), (3, 3), (6, 1), (7, 1), (8, 1), (9, 1), (10, 1), (11, 1)]) := by kernel_rfl
theorem ty70 : tyB Tryz.prog 70 true 12 = true := by kernel_rfl
theorem la151 : qZW Tryz.prog 151 = some ([.int .i64 0, .int .i64 0, .int .i64 0, .int .i64 0, .int .i64 0, .int .i64 0, .int .i64 0, .int .i64 0], [(0, 1), (1, 1), (2, 1), (3, 1), (4, 1), (5, 1), (6, 1), (7, 1)]) := by kernel_rfl
theorem qHW : qUK Tryz.prog 70 1 1 = true := by kernel_rfl
theorem fa70_2 : qUK Tryz.prog 70 2 2 = true := by kernel_rfl
theorem en29 : yG Tryz.prog 29 := zZ Tryz.func29 (by kernel_rfl) (by kernel_rfl)
theorem zQG : qUK Tryz.prog 70 3 3 = true := by kernel_rfl
theorem ty39 : tyB Tryz.prog 39 true 3 = true := by kernel_rfl
theorem qHX : qUK Tryz.prog 70 4 6 = true := by kernel_rfl
theorem qHU : qUK Tryz.prog 70 5 7 = true := by kernel_rfl
theorem mkLetter (k : Int) (hk : 0 ≤ k ∧ k ≤ 9) (w : World) : Calls Tryz.prog 76 [.int .i64 k].toArray w (Rets (vS (letterB k)) (w)) := by
 refine zK (n := 7) Tryz.func76 rfl rfl rfl ?_
 refine qK ?_
 refine qZ ?_
 refine qY (qW rfl) rfl rfl rfl ?_
 refine qJ ?_
 refine qQ ?_
 refine qK ?_
 refine qZ ?_
 refine qY (qU rfl) rfl rfl rfl ?_
 refine qY (qU rfl) rfl rfl rfl ?_
 refine qY (jU rfl rfl (by first | exact zX ⟨by omega, by omega⟩ | rfl)) rfl rfl rfl ?_
 refine qY (opV_sliceStr (s := abc) Tryz.underlying9 rfl rfl rfl (by omega) (by omega) (by show _ ≤ (10 : Int); omega)) rfl rfl rfl ?_
 refine qY (qW rfl) rfl rfl rfl ?_
 refine qJ ?_
 refine qQ ?_
 refine zV ?_
 refine zQ (rs := [.tmp 2]) rfl (resC (yH rfl) (resN)) (congrArg (vS) (?_ : _ = letterB k))
 rfl
theorem ixK {i : Int} (h : 0 ≤ i ∧ i < 8) : ∀ w : World, (Instr.index 151 (.agg #[.int .i64 3, .int .i64 3, .int .i64 1, .int .i64 2, .int .i64 4, .int .i64 5, .int .i64 3, .int .i64 0]) (.int .i64 i)).run Tryz.prog w = .ok (.int .i64 (qQY i)) w := by
 have hi : i = 0 ∨ i = 1 ∨ i = 2 ∨ i = 3 ∨ i = 4 ∨ i = 5 ∨ i = 6 ∨ i = 7 := by omega
 rcases hi with rfl | rfl | rfl | rfl | rfl | rfl | rfl | rfl <;> (intro w; kernel_rfl)
theorem quo8 {a : Int} (h : -9000000000 ≤ a ∧ a ≤ 9000000000) : IntKind.i64.wrap (a.tdiv 8) = a.tdiv 8 := zX (by
 have := tdiv_bnd (a := a) (b := 8) (by unfold In64; omega) (by decide)
 exact this)
theorem hi8 {a b : Int} (ha : 0 ≤ a ∧ a < 4) (hb : 0 ≤ b ∧ b < 3) : IntKind.i64.wrap (((1 + a) * 65536).tdiv 8 + b) = ((1 + a) * 65536).tdiv 8 + b := zX (by
 rw [Int.tdiv_eq_ediv_of_nonneg (by omega)]; omega)
theorem mkJoint {b : Nat} {sl : Value} {L : List Int} {i : Nat} (k : Int) (hk : 0 ≤ k ∧ k ≤ 9) (w : World) (hs : Src w b sl L i) : Calls Tryz.prog 56 [.pointer (some ⟨b, 0, none⟩), .int .i64 k].toArray w (Rets (jv ((qVK L i k).1)) (srcW w b sl L ((qVK L i k).2))) := by
 refine calls_src (n := 68) hs Tryz.func56 rfl rfl rfl ?_
 refine qK ?_
 refine qZ ?_
 refine yK 4 ze70 rfl rfl rfl ?_; intro b4
 refine qJ ?_
 refine qQ ?_
 refine qK ?_
 refine qZ ?_
 refine qY (qU rfl) rfl rfl rfl ?_
 refine jG (F := vS) (zY en76 rfl (fun w _ => mkLetter _ (by first | omega | assumption | (unfold In64; omega) | decide) w)) rfl rfl rfl ?_; intro r7 hr7
 refine qY (qU rfl) rfl rfl rfl ?_
 refine qY (qZQ rfl rfl (by first | exact zX ⟨by omega, by omega⟩ | rfl)) rfl rfl rfl ?_
 refine qY (qU rfl) rfl rfl rfl ?_
 refine kY (F := vI) hs en27 rfl (fun w' h => kZ _ (by first | omega | assumption | (unfold In64; omega) | decide) w' h) rfl rfl ?_; intro r11 hr11
 have br11 := uJ hr11 (by first | decide | omega)
 refine qY (jU rfl rfl (by first | exact zX ⟨by omega, by omega⟩ | rfl)) rfl rfl rfl ?_
 refine qY (qU rfl) rfl rfl rfl ?_
 refine kY (F := vI) hs en27 rfl (fun w' h => kZ _ (by first | omega | assumption | (unfold In64; omega) | decide) w' h) rfl rfl ?_; intro r14 hr14
 have br14 := uJ hr14 (by first | decide | omega)
 refine qY (jU rfl rfl (by first | exact zX ⟨by omega, by omega⟩ | rfl)) rfl rfl rfl ?_
 refine qY (zU la70 rfl rfl) rfl rfl rfl ?_
 refine yK 5 ze70 rfl rfl rfl ?_; intro b5
 refine qG 5 ty70 rfl rfl rfl rfl rfl rfl rfl rfl ?_
 refine qJ ?_
 refine qQ ?_
 refine qK ?_
 refine qZ ?_
 refine qY (zU la151 rfl rfl) rfl rfl rfl ?_
 refine qY (qU rfl) rfl rfl rfl ?_
 refine kY (F := vI) hs en27 rfl (fun w' h => kZ _ (by first | omega | assumption | (unfold In64; omega) | decide) w' h) rfl rfl ?_; intro r19 hr19
 have br19 := uJ hr19 (by first | decide | omega)
 refine qY (opV_index rfl rfl (ixK (by omega))) rfl rfl rfl ?_
 refine qY (qX qHW rfl) rfl rfl rfl ?_
 refine qG 5 ty3 rfl rfl rfl rfl rfl rfl rfl rfl ?_
 refine qJ ?_
 refine qQ ?_
 refine qK ?_
 refine qK ?_
 refine qZ ?_
 refine qY (qU rfl) rfl rfl rfl ?_
 refine kY (F := vI) hs en27 rfl (fun w' h => kZ _ (by first | omega | assumption | (unfold In64; omega) | decide) w' h) rfl rfl ?_; intro r23 hr23
 have br23 := uJ hr23 (by first | decide | omega)
 refine qY (uK rfl rfl) rfl rfl rfl ?_
 refine qJ ?_
 refine qQ ?_
 refine yX rfl (fun hc24 => ?_) (fun hc24 => ?_)
 ·
  have hp : srcR L (i + 3) 4 = 1 := by have := of_decide_eq_true hc24; rw [← this]; exact hr23.symm
  refine qZ ?_
  refine qY (qX fa70_2 rfl) rfl rfl rfl ?_
  refine qG 5 ty3 rfl rfl rfl rfl rfl rfl rfl rfl ?_
  refine qJ ?_
  refine qQ ?_
  refine qK ?_
  refine qK ?_
  refine qZ ?_
  refine qY (qU rfl) rfl rfl rfl ?_
  refine qY (opV_gtr rfl rfl) rfl rfl rfl ?_
  refine qJ ?_
  refine qQ ?_
  refine yX rfl (fun hc27 => ?_) (fun hc27 => ?_)
  ·
   have hi : 0 < k := of_decide_eq_true hc27
   refine qZ ?_
   refine qY (qU rfl) rfl rfl rfl ?_
   refine kY (F := vI) hs en29 rfl (fun w' h => qXZ _ (by first | omega | assumption | (unfold In64; omega) | decide) w' h) rfl rfl ?_; intro r29 hr29
   have br29 := zQK hr29 (by first | decide | omega)
   refine qY (kU rfl rfl (by first | exact zX ⟨by omega, by omega⟩ | rfl)) rfl rfl rfl ?_
   refine qY (qU rfl) rfl rfl rfl ?_
   refine kY (F := vI) hs en29 rfl (fun w' h => qXZ _ (by first | omega | assumption | (unfold In64; omega) | decide) w' h) rfl rfl ?_; intro r32 hr32
   have br32 := zQK hr32 (by first | decide | omega)
   refine qY (kU rfl rfl (by first | exact zX ⟨by omega, by omega⟩ | rfl)) rfl rfl rfl ?_
   refine qY (zU la39 rfl rfl) rfl rfl rfl ?_
   refine qY (qX zQG rfl) rfl rfl rfl ?_
   refine qG 5 ty39 rfl rfl rfl rfl rfl rfl rfl rfl ?_
   refine qJ ?_
   refine qQ ?_
   refine qK ?_
   refine qK ?_
   refine qZ ?_
   refine qY (qX qHW rfl) rfl rfl rfl ?_
   refine qY (zW 5 ty3 rfl rfl rfl) rfl rfl rfl ?_
   refine qJ ?_
   refine qQ ?_
   refine jX ?_
   refine qK ?_
   refine qZ ?_
   refine qY (uK rfl rfl) rfl rfl rfl ?_
   refine qY (qW rfl) rfl rfl rfl ?_
   refine qJ ?_
   refine qQ ?_
   refine yX rfl (fun hc53 => ?_) (fun hc53 => ?_)
   ·
    have hk0 : qQY (srcR L (i + 2) 8) = 0 := by have := of_decide_eq_true hc53; rw [hr19] at this; exact this
    rw [jointOf_fix hk0]
    first | rw [qXQ hp hi, qZG hi] | rw [qUH hp hi, qZH hi] | rw [qUG hp hi, qZG hi] | rw [qUV hp hi, qZH hi]
    refine yU ?_
    refine qH ?_
    refine qQ ?_
    refine qK ?_
    refine qZ ?_
    refine qY (qV 5 ty70 rfl rfl rfl) rfl rfl rfl ?_
    refine qG 4 ty70 rfl rfl rfl rfl rfl rfl rfl rfl ?_
    refine qJ ?_
    refine qQ ?_
    refine zV ?_
    refine zQ (rs := [.cell 4 70]) rfl (resC (zJ 4 rfl rfl ty70 rfl) (resN)) ?_
    subst_vars; rfl
   ·
    have hk0 : ¬ qQY (srcR L (i + 2) 8) = 0 := by have := of_decide_eq_false hc53; rw [hr19] at this; exact this
    refine qK ?_
    refine qK ?_
    refine qZ ?_
    refine qY (uK rfl rfl) rfl rfl rfl ?_
    refine qY (qW rfl) rfl rfl rfl ?_
    refine qJ ?_
    refine qQ ?_
    refine yX rfl (fun hc55 => ?_) (fun hc55 => ?_)
    ·
     have hk4 : qQY (srcR L (i + 2) 8) = 4 := by have := of_decide_eq_true hc55; rw [hr19] at this; exact this
     rw [qKH (.inl hk4)]
     first | rw [qXQ hp hi, qZG hi] | rw [qUH hp hi, qZH hi] | rw [qUG hp hi, qZG hi] | rw [qUV hp hi, qZH hi]
     refine yU ?_
     refine qQ ?_
     refine jH rfl (hc55) ?_
     refine qZ ?_
     refine qY (qU rfl) rfl rfl rfl ?_
     refine kY (F := vI) hs en27 rfl (fun w' h => kZ _ (by first | omega | assumption | (unfold In64; omega) | decide) w' h) rfl rfl ?_; intro r59 hr59
     have br59 := uJ hr59 (by first | decide | omega)
     refine qY (qKW rfl (by first | exact qVX ⟨by omega, by omega⟩ | rfl)) rfl rfl rfl ?_
     refine qY (kU rfl rfl (by first | exact zX ⟨by omega, by omega⟩ | rfl)) rfl rfl rfl ?_
     refine qY (qU rfl) rfl rfl rfl ?_
     refine kY (F := vI) hs en27 rfl (fun w' h => kZ _ (by first | omega | assumption | (unfold In64; omega) | decide) w' h) rfl rfl ?_; intro r63 hr63
     have br63 := uJ hr63 (by first | decide | omega)
     refine qY (kU rfl rfl (by first | exact zX ⟨by omega, by omega⟩ | rfl)) rfl rfl rfl ?_
     refine qY (qX qHX rfl) rfl rfl rfl ?_
     refine qG 5 ty2 rfl rfl rfl rfl rfl rfl rfl rfl ?_
     refine qY (qX qHU rfl) rfl rfl rfl ?_
     refine qG 5 ty2 rfl rfl rfl rfl rfl rfl rfl rfl ?_
     refine qJ ?_
     refine qH ?_
     refine qQ ?_
     refine qK ?_
     refine qZ ?_
     refine qY (qV 5 ty70 rfl rfl rfl) rfl rfl rfl ?_
     refine qG 4 ty70 rfl rfl rfl rfl rfl rfl rfl rfl ?_
     refine qJ ?_
     refine qQ ?_
     refine zV ?_
     refine zQ (rs := [.cell 4 70]) rfl (resC (zJ 4 rfl rfl ty70 rfl) (resN)) ?_
     subst_vars; rfl
    ·
     have hk4 : ¬ qQY (srcR L (i + 2) 8) = 4 := by have := of_decide_eq_false hc55; rw [hr19] at this; exact this
     refine qZ ?_
     refine qY (uK rfl rfl) rfl rfl rfl ?_
     refine qY (qW rfl) rfl rfl rfl ?_
     refine qJ ?_
     refine qQ ?_
     refine yX rfl (fun hc55_2 => ?_) (fun hc55_2 => ?_)
     ·
      have hk5 : qQY (srcR L (i + 2) 8) = 5 := by have := of_decide_eq_true hc55_2; rw [hr19] at this; exact this
      rw [qKH (.inr hk5)]
      first | rw [qXQ hp hi, qZG hi] | rw [qUH hp hi, qZH hi] | rw [qUG hp hi, qZG hi] | rw [qUV hp hi, qZH hi]
      refine qZ ?_
      refine qY (qU rfl) rfl rfl rfl ?_
      refine kY (F := vI) hs en27 rfl (fun w' h => kZ _ (by first | omega | assumption | (unfold In64; omega) | decide) w' h) rfl rfl ?_; intro r59 hr59
      have br59 := uJ hr59 (by first | decide | omega)
      refine qY (qKW rfl (by first | exact qVX ⟨by omega, by omega⟩ | rfl)) rfl rfl rfl ?_
      refine qY (kU rfl rfl (by first | exact zX ⟨by omega, by omega⟩ | rfl)) rfl rfl rfl ?_
      refine qY (qU rfl) rfl rfl rfl ?_
      refine kY (F := vI) hs en27 rfl (fun w' h => kZ _ (by first | omega | assumption | (unfold In64; omega) | decide) w' h) rfl rfl ?_; intro r63 hr63
      have br63 := uJ hr63 (by first | decide | omega)
      refine qY (kU rfl rfl (by first | exact zX ⟨by omega, by omega⟩ | rfl)) rfl rfl rfl ?_
      refine qY (qX qHX rfl) rfl rfl rfl ?_
      refine qG 5 ty2 rfl rfl rfl rfl rfl rfl rfl rfl ?_
      refine qY (qX qHU rfl) rfl rfl rfl ?_
      refine qG 5 ty2 rfl rfl rfl rfl rfl rfl rfl rfl ?_
      refine qJ ?_
      refine qH ?_
      refine qQ ?_
      refine qK ?_
      refine qZ ?_
      refine qY (qV 5 ty70 rfl rfl rfl) rfl rfl rfl ?_
      refine qG 4 ty70 rfl rfl rfl rfl rfl rfl rfl rfl ?_
      refine qJ ?_
      refine qQ ?_
      refine zV ?_
      refine zQ (rs := [.cell 4 70]) rfl (resC (zJ 4 rfl rfl ty70 rfl) (resN)) ?_
      subst_vars; rfl
     ·
      have hk5 : ¬ qQY (srcR L (i + 2) 8) = 5 := by have := of_decide_eq_false hc55_2; rw [hr19] at this; exact this
      rw [jointOf_tu hk0 (by omega)]
      first | rw [qXQ hp hi, qZG hi] | rw [qUH hp hi, qZH hi] | rw [qUG hp hi, qZG hi] | rw [qUV hp hi, qZH hi]
      refine qZ ?_
      refine qY (qU rfl) rfl rfl rfl ?_
      refine kY (F := vI) hs en27 rfl (fun w' h => kZ _ (by first | omega | assumption | (unfold In64; omega) | decide) w' h) rfl rfl ?_; intro r39 hr39
      have br39 := uJ hr39 (by first | decide | omega)
      refine qY (qKW rfl (by first | exact qVX ⟨by omega, by omega⟩ | rfl)) rfl rfl rfl ?_
      refine qY (kU rfl rfl (by first | exact zX ⟨by omega, by omega⟩ | rfl)) rfl rfl rfl ?_
      refine qY (qWZ rfl rfl (by first | decide | omega) (quo8 (by omega))) rfl rfl rfl ?_
      refine qY (qU rfl) rfl rfl rfl ?_
      refine kY (F := vI) hs en27 rfl (fun w' h => kZ _ (by first | omega | assumption | (unfold In64; omega) | decide) w' h) rfl rfl ?_; intro r44 hr44
      have br44 := uJ hr44 (by first | decide | omega)
      refine qY (jU rfl rfl (by first | exact zX ⟨by omega, by omega⟩ | rfl)) rfl rfl rfl ?_
      refine qY (kU rfl rfl (by first | exact zX ⟨by omega, by omega⟩ | rfl)) rfl rfl rfl ?_
      refine qY (qWZ rfl rfl (by first | decide | omega) (quo8 (by omega))) rfl rfl rfl ?_
      refine qY (qU rfl) rfl rfl rfl ?_
      refine kY (F := vI) hs en27 rfl (fun w' h => kZ _ (by first | omega | assumption | (unfold In64; omega) | decide) w' h) rfl rfl ?_; intro r49 hr49
      have br49 := uJ hr49 (by first | decide | omega)
      refine qY (jU rfl rfl (hi8 br44 br49)) rfl rfl rfl ?_
      refine qY (qX qHX rfl) rfl rfl rfl ?_
      refine qG 5 ty2 rfl rfl rfl rfl rfl rfl rfl rfl ?_
      refine qY (qX qHU rfl) rfl rfl rfl ?_
      refine qG 5 ty2 rfl rfl rfl rfl rfl rfl rfl rfl ?_
      refine qJ ?_
      refine qH ?_
      refine qQ ?_
      refine qK ?_
      refine qZ ?_
      refine qY (qV 5 ty70 rfl rfl rfl) rfl rfl rfl ?_
      refine qG 4 ty70 rfl rfl rfl rfl rfl rfl rfl rfl ?_
      refine qJ ?_
      refine qQ ?_
      refine zV ?_
      refine zQ (rs := [.cell 4 70]) rfl (resC (zJ 4 rfl rfl ty70 rfl) (resN)) ?_
      subst_vars; rfl
  ·
   have hi : ¬ 0 < k := of_decide_eq_false hc27
   refine yU ?_
   refine qQ ?_
   refine qK ?_
   refine qK ?_
   refine qZ ?_
   refine qY (qX qHW rfl) rfl rfl rfl ?_
   refine qY (zW 5 ty3 rfl rfl rfl) rfl rfl rfl ?_
   refine qJ ?_
   refine qQ ?_
   refine jX ?_
   refine qK ?_
   refine qZ ?_
   refine qY (uK rfl rfl) rfl rfl rfl ?_
   refine qY (qW rfl) rfl rfl rfl ?_
   refine qJ ?_
   refine qQ ?_
   refine yX rfl (fun hc53 => ?_) (fun hc53 => ?_)
   ·
    have hk0 : qQY (srcR L (i + 2) 8) = 0 := by have := of_decide_eq_true hc53; rw [hr19] at this; exact this
    rw [jointOf_fix hk0]
    first | rw [qXQ hp hi, qZG hi] | rw [qUH hp hi, qZH hi] | rw [qUG hp hi, qZG hi] | rw [qUV hp hi, qZH hi]
    refine yU ?_
    refine qH ?_
    refine qQ ?_
    refine qK ?_
    refine qZ ?_
    refine qY (qV 5 ty70 rfl rfl rfl) rfl rfl rfl ?_
    refine qG 4 ty70 rfl rfl rfl rfl rfl rfl rfl rfl ?_
    refine qJ ?_
    refine qQ ?_
    refine zV ?_
    refine zQ (rs := [.cell 4 70]) rfl (resC (zJ 4 rfl rfl ty70 rfl) (resN)) ?_
    subst_vars; rfl
   ·
    have hk0 : ¬ qQY (srcR L (i + 2) 8) = 0 := by have := of_decide_eq_false hc53; rw [hr19] at this; exact this
    refine qK ?_
    refine qK ?_
    refine qZ ?_
    refine qY (uK rfl rfl) rfl rfl rfl ?_
    refine qY (qW rfl) rfl rfl rfl ?_
    refine qJ ?_
    refine qQ ?_
    refine yX rfl (fun hc55 => ?_) (fun hc55 => ?_)
    ·
     have hk4 : qQY (srcR L (i + 2) 8) = 4 := by have := of_decide_eq_true hc55; rw [hr19] at this; exact this
     rw [qKH (.inl hk4)]
     first | rw [qXQ hp hi, qZG hi] | rw [qUH hp hi, qZH hi] | rw [qUG hp hi, qZG hi] | rw [qUV hp hi, qZH hi]
     refine yU ?_
     refine qQ ?_
     refine jH rfl (hc55) ?_
     refine qZ ?_
     refine qY (qU rfl) rfl rfl rfl ?_
     refine kY (F := vI) hs en27 rfl (fun w' h => kZ _ (by first | omega | assumption | (unfold In64; omega) | decide) w' h) rfl rfl ?_; intro r59 hr59
     have br59 := uJ hr59 (by first | decide | omega)
     refine qY (qKW rfl (by first | exact qVX ⟨by omega, by omega⟩ | rfl)) rfl rfl rfl ?_
     refine qY (kU rfl rfl (by first | exact zX ⟨by omega, by omega⟩ | rfl)) rfl rfl rfl ?_
     refine qY (qU rfl) rfl rfl rfl ?_
     refine kY (F := vI) hs en27 rfl (fun w' h => kZ _ (by first | omega | assumption | (unfold In64; omega) | decide) w' h) rfl rfl ?_; intro r63 hr63
     have br63 := uJ hr63 (by first | decide | omega)
     refine qY (kU rfl rfl (by first | exact zX ⟨by omega, by omega⟩ | rfl)) rfl rfl rfl ?_
     refine qY (qX qHX rfl) rfl rfl rfl ?_
     refine qG 5 ty2 rfl rfl rfl rfl rfl rfl rfl rfl ?_
     refine qY (qX qHU rfl) rfl rfl rfl ?_
     refine qG 5 ty2 rfl rfl rfl rfl rfl rfl rfl rfl ?_
     refine qJ ?_
     refine qH ?_
     refine qQ ?_
     refine qK ?_
     refine qZ ?_
     refine qY (qV 5 ty70 rfl rfl rfl) rfl rfl rfl ?_
     refine qG 4 ty70 rfl rfl rfl rfl rfl rfl rfl rfl ?_
     refine qJ ?_
     refine qQ ?_
     refine zV ?_
     refine zQ (rs := [.cell 4 70]) rfl (resC (zJ 4 rfl rfl ty70 rfl) (resN)) ?_
     subst_vars; rfl
    ·
     have hk4 : ¬ qQY (srcR L (i + 2) 8) = 4 := by have := of_decide_eq_false hc55; rw [hr19] at this; exact this
     refine qZ ?_
     refine qY (uK rfl rfl) rfl rfl rfl ?_
     refine qY (qW rfl) rfl rfl rfl ?_
     refine qJ ?_
     refine qQ ?_
     refine yX rfl (fun hc55_2 => ?_) (fun hc55_2 => ?_)
     ·
      have hk5 : qQY (srcR L (i + 2) 8) = 5 := by have := of_decide_eq_true hc55_2; rw [hr19] at this; exact this
      rw [qKH (.inr hk5)]
      first | rw [qXQ hp hi, qZG hi] | rw [qUH hp hi, qZH hi] | rw [qUG hp hi, qZG hi] | rw [qUV hp hi, qZH hi]
      refine qZ ?_
      refine qY (qU rfl) rfl rfl rfl ?_
      refine kY (F := vI) hs en27 rfl (fun w' h => kZ _ (by first | omega | assumption | (unfold In64; omega) | decide) w' h) rfl rfl ?_; intro r59 hr59
      have br59 := uJ hr59 (by first | decide | omega)
      refine qY (qKW rfl (by first | exact qVX ⟨by omega, by omega⟩ | rfl)) rfl rfl rfl ?_
      refine qY (kU rfl rfl (by first | exact zX ⟨by omega, by omega⟩ | rfl)) rfl rfl rfl ?_
      refine qY (qU rfl) rfl rfl rfl ?_
      refine kY (F := vI) hs en27 rfl (fun w' h => kZ _ (by first | omega | assumption | (unfold In64; omega) | decide) w' h) rfl rfl ?_; intro r63 hr63
      have br63 := uJ hr63 (by first | decide | omega)
      refine qY (kU rfl rfl (by first | exact zX ⟨by omega, by omega⟩ | rfl)) rfl rfl rfl ?_
      refine qY (qX qHX rfl) rfl rfl rfl ?_
      refine qG 5 ty2 rfl rfl rfl rfl rfl rfl rfl rfl ?_
      refine qY (qX qHU rfl) rfl rfl rfl ?_
      refine qG 5 ty2 rfl rfl rfl rfl rfl rfl rfl rfl ?_
      refine qJ ?_
      refine qH ?_
      refine qQ ?_
      refine qK ?_
      refine qZ ?_
      refine qY (qV 5 ty70 rfl rfl rfl) rfl rfl rfl ?_
      refine qG 4 ty70 rfl rfl rfl rfl rfl rfl rfl rfl ?_
      refine qJ ?_
      refine qQ ?_
      refine zV ?_
      refine zQ (rs := [.cell 4 70]) rfl (resC (zJ 4 rfl rfl ty70 rfl) (resN)) ?_
      subst_vars; rfl
     ·
      have hk5 : ¬ qQY (srcR L (i + 2) 8) = 5 := by have := of_decide_eq_false hc55_2; rw [hr19] at this; exact this
      rw [jointOf_tu hk0 (by omega)]
      first | rw [qXQ hp hi, qZG hi] | rw [qUH hp hi, qZH hi] | rw [qUG hp hi, qZG hi] | rw [qUV hp hi, qZH hi]
      refine qZ ?_
      refine qY (qU rfl) rfl rfl rfl ?_
      refine kY (F := vI) hs en27 rfl (fun w' h => kZ _ (by first | omega | assumption | (unfold In64; omega) | decide) w' h) rfl rfl ?_; intro r39 hr39
      have br39 := uJ hr39 (by first | decide | omega)
      refine qY (qKW rfl (by first | exact qVX ⟨by omega, by omega⟩ | rfl)) rfl rfl rfl ?_
      refine qY (kU rfl rfl (by first | exact zX ⟨by omega, by omega⟩ | rfl)) rfl rfl rfl ?_
      refine qY (qWZ rfl rfl (by first | decide | omega) (quo8 (by omega))) rfl rfl rfl ?_
      refine qY (qU rfl) rfl rfl rfl ?_
      refine kY (F := vI) hs en27 rfl (fun w' h => kZ _ (by first | omega | assumption | (unfold In64; omega) | decide) w' h) rfl rfl ?_; intro r44 hr44
      have br44 := uJ hr44 (by first | decide | omega)
      refine qY (jU rfl rfl (by first | exact zX ⟨by omega, by omega⟩ | rfl)) rfl rfl rfl ?_
      refine qY (kU rfl rfl (by first | exact zX ⟨by omega, by omega⟩ | rfl)) rfl rfl rfl ?_
      refine qY (qWZ rfl rfl (by first | decide | omega) (quo8 (by omega))) rfl rfl rfl ?_
      refine qY (qU rfl) rfl rfl rfl ?_
      refine kY (F := vI) hs en27 rfl (fun w' h => kZ _ (by first | omega | assumption | (unfold In64; omega) | decide) w' h) rfl rfl ?_; intro r49 hr49
      have br49 := uJ hr49 (by first | decide | omega)
      refine qY (jU rfl rfl (hi8 br44 br49)) rfl rfl rfl ?_
      refine qY (qX qHX rfl) rfl rfl rfl ?_
      refine qG 5 ty2 rfl rfl rfl rfl rfl rfl rfl rfl ?_
      refine qY (qX qHU rfl) rfl rfl rfl ?_
      refine qG 5 ty2 rfl rfl rfl rfl rfl rfl rfl rfl ?_
      refine qJ ?_
      refine qH ?_
      refine qQ ?_
      refine qK ?_
      refine qZ ?_
      refine qY (qV 5 ty70 rfl rfl rfl) rfl rfl rfl ?_
      refine qG 4 ty70 rfl rfl rfl rfl rfl rfl rfl rfl ?_
      refine qJ ?_
      refine qQ ?_
      refine zV ?_
      refine zQ (rs := [.cell 4 70]) rfl (resC (zJ 4 rfl rfl ty70 rfl) (resN)) ?_
      subst_vars; rfl
 ·
  have hp : ¬ srcR L (i + 3) 4 = 1 := fun e => by have := of_decide_eq_false hc24; exact this (hr23.trans e)
  refine yU ?_
  refine qQ ?_
  refine qK ?_
  refine qK ?_
  refine qZ ?_
  refine qY (qU rfl) rfl rfl rfl ?_
  refine qY (opV_gtr rfl rfl) rfl rfl rfl ?_
  refine qJ ?_
  refine qQ ?_
  refine yX rfl (fun hc27 => ?_) (fun hc27 => ?_)
  ·
   have hi : 0 < k := of_decide_eq_true hc27
   refine qZ ?_
   refine qY (qU rfl) rfl rfl rfl ?_
   refine kY (F := vI) hs en29 rfl (fun w' h => qXZ _ (by first | omega | assumption | (unfold In64; omega) | decide) w' h) rfl rfl ?_; intro r29 hr29
   have br29 := zQK hr29 (by first | decide | omega)
   refine qY (kU rfl rfl (by first | exact zX ⟨by omega, by omega⟩ | rfl)) rfl rfl rfl ?_
   refine qY (qU rfl) rfl rfl rfl ?_
   refine kY (F := vI) hs en29 rfl (fun w' h => qXZ _ (by first | omega | assumption | (unfold In64; omega) | decide) w' h) rfl rfl ?_; intro r32 hr32
   have br32 := zQK hr32 (by first | decide | omega)
   refine qY (kU rfl rfl (by first | exact zX ⟨by omega, by omega⟩ | rfl)) rfl rfl rfl ?_
   refine qY (zU la39 rfl rfl) rfl rfl rfl ?_
   refine qY (qX zQG rfl) rfl rfl rfl ?_
   refine qG 5 ty39 rfl rfl rfl rfl rfl rfl rfl rfl ?_
   refine qJ ?_
   refine qQ ?_
   refine qK ?_
   refine qK ?_
   refine qZ ?_
   refine qY (qX qHW rfl) rfl rfl rfl ?_
   refine qY (zW 5 ty3 rfl rfl rfl) rfl rfl rfl ?_
   refine qJ ?_
   refine qQ ?_
   refine jX ?_
   refine qK ?_
   refine qZ ?_
   refine qY (uK rfl rfl) rfl rfl rfl ?_
   refine qY (qW rfl) rfl rfl rfl ?_
   refine qJ ?_
   refine qQ ?_
   refine yX rfl (fun hc53 => ?_) (fun hc53 => ?_)
   ·
    have hk0 : qQY (srcR L (i + 2) 8) = 0 := by have := of_decide_eq_true hc53; rw [hr19] at this; exact this
    rw [jointOf_fix hk0]
    first | rw [qXQ hp hi, qZG hi] | rw [qUH hp hi, qZH hi] | rw [qUG hp hi, qZG hi] | rw [qUV hp hi, qZH hi]
    refine yU ?_
    refine qH ?_
    refine qQ ?_
    refine qK ?_
    refine qZ ?_
    refine qY (qV 5 ty70 rfl rfl rfl) rfl rfl rfl ?_
    refine qG 4 ty70 rfl rfl rfl rfl rfl rfl rfl rfl ?_
    refine qJ ?_
    refine qQ ?_
    refine zV ?_
    refine zQ (rs := [.cell 4 70]) rfl (resC (zJ 4 rfl rfl ty70 rfl) (resN)) ?_
    subst_vars; rfl
   ·
    have hk0 : ¬ qQY (srcR L (i + 2) 8) = 0 := by have := of_decide_eq_false hc53; rw [hr19] at this; exact this
    refine qK ?_
    refine qK ?_
    refine qZ ?_
    refine qY (uK rfl rfl) rfl rfl rfl ?_
    refine qY (qW rfl) rfl rfl rfl ?_
    refine qJ ?_
    refine qQ ?_
    refine yX rfl (fun hc55 => ?_) (fun hc55 => ?_)
    ·
     have hk4 : qQY (srcR L (i + 2) 8) = 4 := by have := of_decide_eq_true hc55; rw [hr19] at this; exact this
     rw [qKH (.inl hk4)]
     first | rw [qXQ hp hi, qZG hi] | rw [qUH hp hi, qZH hi] | rw [qUG hp hi, qZG hi] | rw [qUV hp hi, qZH hi]
     refine yU ?_
     refine qQ ?_
     refine jH rfl (hc55) ?_
     refine qZ ?_
     refine qY (qU rfl) rfl rfl rfl ?_
     refine kY (F := vI) hs en27 rfl (fun w' h => kZ _ (by first | omega | assumption | (unfold In64; omega) | decide) w' h) rfl rfl ?_; intro r59 hr59
     have br59 := uJ hr59 (by first | decide | omega)
     refine qY (qKW rfl (by first | exact qVX ⟨by omega, by omega⟩ | rfl)) rfl rfl rfl ?_
     refine qY (kU rfl rfl (by first | exact zX ⟨by omega, by omega⟩ | rfl)) rfl rfl rfl ?_
     refine qY (qU rfl) rfl rfl rfl ?_
     refine kY (F := vI) hs en27 rfl (fun w' h => kZ _ (by first | omega | assumption | (unfold In64; omega) | decide) w' h) rfl rfl ?_; intro r63 hr63
     have br63 := uJ hr63 (by first | decide | omega)
     refine qY (kU rfl rfl (by first | exact zX ⟨by omega, by omega⟩ | rfl)) rfl rfl rfl ?_
     refine qY (qX qHX rfl) rfl rfl rfl ?_
     refine qG 5 ty2 rfl rfl rfl rfl rfl rfl rfl rfl ?_
     refine qY (qX qHU rfl) rfl rfl rfl ?_
     refine qG 5 ty2 rfl rfl rfl rfl rfl rfl rfl rfl ?_
     refine qJ ?_
     refine qH ?_
     refine qQ ?_
     refine qK ?_
     refine qZ ?_
     refine qY (qV 5 ty70 rfl rfl rfl) rfl rfl rfl ?_
     refine qG 4 ty70 rfl rfl rfl rfl rfl rfl rfl rfl ?_
     refine qJ ?_
     refine qQ ?_
     refine zV ?_
     refine zQ (rs := [.cell 4 70]) rfl (resC (zJ 4 rfl rfl ty70 rfl) (resN)) ?_
     subst_vars; rfl
    ·
     have hk4 : ¬ qQY (srcR L (i + 2) 8) = 4 := by have := of_decide_eq_false hc55; rw [hr19] at this; exact this
     refine qZ ?_
     refine qY (uK rfl rfl) rfl rfl rfl ?_
     refine qY (qW rfl) rfl rfl rfl ?_
     refine qJ ?_
     refine qQ ?_
     refine yX rfl (fun hc55_2 => ?_) (fun hc55_2 => ?_)
     ·
      have hk5 : qQY (srcR L (i + 2) 8) = 5 := by have := of_decide_eq_true hc55_2; rw [hr19] at this; exact this
      rw [qKH (.inr hk5)]
      first | rw [qXQ hp hi, qZG hi] | rw [qUH hp hi, qZH hi] | rw [qUG hp hi, qZG hi] | rw [qUV hp hi, qZH hi]
      refine qZ ?_
      refine qY (qU rfl) rfl rfl rfl ?_
      refine kY (F := vI) hs en27 rfl (fun w' h => kZ _ (by first | omega | assumption | (unfold In64; omega) | decide) w' h) rfl rfl ?_; intro r59 hr59
      have br59 := uJ hr59 (by first | decide | omega)
      refine qY (qKW rfl (by first | exact qVX ⟨by omega, by omega⟩ | rfl)) rfl rfl rfl ?_
      refine qY (kU rfl rfl (by first | exact zX ⟨by omega, by omega⟩ | rfl)) rfl rfl rfl ?_
      refine qY (qU rfl) rfl rfl rfl ?_
      refine kY (F := vI) hs en27 rfl (fun w' h => kZ _ (by first | omega | assumption | (unfold In64; omega) | decide) w' h) rfl rfl ?_; intro r63 hr63
      have br63 := uJ hr63 (by first | decide | omega)
      refine qY (kU rfl rfl (by first | exact zX ⟨by omega, by omega⟩ | rfl)) rfl rfl rfl ?_
      refine qY (qX qHX rfl) rfl rfl rfl ?_
      refine qG 5 ty2 rfl rfl rfl rfl rfl rfl rfl rfl ?_
      refine qY (qX qHU rfl) rfl rfl rfl ?_
      refine qG 5 ty2 rfl rfl rfl rfl rfl rfl rfl rfl ?_
      refine qJ ?_
      refine qH ?_
      refine qQ ?_
      refine qK ?_
      refine qZ ?_
      refine qY (qV 5 ty70 rfl rfl rfl) rfl rfl rfl ?_
      refine qG 4 ty70 rfl rfl rfl rfl rfl rfl rfl rfl ?_
      refine qJ ?_
      refine qQ ?_
      refine zV ?_
      refine zQ (rs := [.cell 4 70]) rfl (resC (zJ 4 rfl rfl ty70 rfl) (resN)) ?_
      subst_vars; rfl
     ·
      have hk5 : ¬ qQY (srcR L (i + 2) 8) = 5 := by have := of_decide_eq_false hc55_2; rw [hr19] at this; exact this
      rw [jointOf_tu hk0 (by omega)]
      first | rw [qXQ hp hi, qZG hi] | rw [qUH hp hi, qZH hi] | rw [qUG hp hi, qZG hi] | rw [qUV hp hi, qZH hi]
      refine qZ ?_
      refine qY (qU rfl) rfl rfl rfl ?_
      refine kY (F := vI) hs en27 rfl (fun w' h => kZ _ (by first | omega | assumption | (unfold In64; omega) | decide) w' h) rfl rfl ?_; intro r39 hr39
      have br39 := uJ hr39 (by first | decide | omega)
      refine qY (qKW rfl (by first | exact qVX ⟨by omega, by omega⟩ | rfl)) rfl rfl rfl ?_
      refine qY (kU rfl rfl (by first | exact zX ⟨by omega, by omega⟩ | rfl)) rfl rfl rfl ?_
      refine qY (qWZ rfl rfl (by first | decide | omega) (quo8 (by omega))) rfl rfl rfl ?_
      refine qY (qU rfl) rfl rfl rfl ?_
      refine kY (F := vI) hs en27 rfl (fun w' h => kZ _ (by first | omega | assumption | (unfold In64; omega) | decide) w' h) rfl rfl ?_; intro r44 hr44
      have br44 := uJ hr44 (by first | decide | omega)
      refine qY (jU rfl rfl (by first | exact zX ⟨by omega, by omega⟩ | rfl)) rfl rfl rfl ?_
      refine qY (kU rfl rfl (by first | exact zX ⟨by omega, by omega⟩ | rfl)) rfl rfl rfl ?_
      refine qY (qWZ rfl rfl (by first | decide | omega) (quo8 (by omega))) rfl rfl rfl ?_
      refine qY (qU rfl) rfl rfl rfl ?_
      refine kY (F := vI) hs en27 rfl (fun w' h => kZ _ (by first | omega | assumption | (unfold In64; omega) | decide) w' h) rfl rfl ?_; intro r49 hr49
      have br49 := uJ hr49 (by first | decide | omega)
      refine qY (jU rfl rfl (hi8 br44 br49)) rfl rfl rfl ?_
      refine qY (qX qHX rfl) rfl rfl rfl ?_
      refine qG 5 ty2 rfl rfl rfl rfl rfl rfl rfl rfl ?_
      refine qY (qX qHU rfl) rfl rfl rfl ?_
      refine qG 5 ty2 rfl rfl rfl rfl rfl rfl rfl rfl ?_
      refine qJ ?_
      refine qH ?_
      refine qQ ?_
      refine qK ?_
      refine qZ ?_
      refine qY (qV 5 ty70 rfl rfl rfl) rfl rfl rfl ?_
      refine qG 4 ty70 rfl rfl rfl rfl rfl rfl rfl rfl ?_
      refine qJ ?_
      refine qQ ?_
      refine zV ?_
      refine zQ (rs := [.cell 4 70]) rfl (resC (zJ 4 rfl rfl ty70 rfl) (resN)) ?_
      subst_vars; rfl
  ·
   have hi : ¬ 0 < k := of_decide_eq_false hc27
   refine yU ?_
   refine qQ ?_
   refine qK ?_
   refine qK ?_
   refine qZ ?_
   refine qY (qX qHW rfl) rfl rfl rfl ?_
   refine qY (zW 5 ty3 rfl rfl rfl) rfl rfl rfl ?_
   refine qJ ?_
   refine qQ ?_
   refine jX ?_
   refine qK ?_
   refine qZ ?_
   refine qY (uK rfl rfl) rfl rfl rfl ?_
   refine qY (qW rfl) rfl rfl rfl ?_
   refine qJ ?_
   refine qQ ?_
   refine yX rfl (fun hc53 => ?_) (fun hc53 => ?_)
   ·
    have hk0 : qQY (srcR L (i + 2) 8) = 0 := by have := of_decide_eq_true hc53; rw [hr19] at this; exact this
    rw [jointOf_fix hk0]
    first | rw [qXQ hp hi, qZG hi] | rw [qUH hp hi, qZH hi] | rw [qUG hp hi, qZG hi] | rw [qUV hp hi, qZH hi]
    refine yU ?_
    refine qH ?_
    refine qQ ?_
    refine qK ?_
    refine qZ ?_
    refine qY (qV 5 ty70 rfl rfl rfl) rfl rfl rfl ?_
    refine qG 4 ty70 rfl rfl rfl rfl rfl rfl rfl rfl ?_
    refine qJ ?_
    refine qQ ?_
    refine zV ?_
    refine zQ (rs := [.cell 4 70]) rfl (resC (zJ 4 rfl rfl ty70 rfl) (resN)) ?_
    subst_vars; rfl
   ·
    have hk0 : ¬ qQY (srcR L (i + 2) 8) = 0 := by have := of_decide_eq_false hc53; rw [hr19] at this; exact this
    refine qK ?_
    refine qK ?_
    refine qZ ?_
    refine qY (uK rfl rfl) rfl rfl rfl ?_
    refine qY (qW rfl) rfl rfl rfl ?_
    refine qJ ?_
    refine qQ ?_
    refine yX rfl (fun hc55 => ?_) (fun hc55 => ?_)
    ·
     have hk4 : qQY (srcR L (i + 2) 8) = 4 := by have := of_decide_eq_true hc55; rw [hr19] at this; exact this
     rw [qKH (.inl hk4)]
     first | rw [qXQ hp hi, qZG hi] | rw [qUH hp hi, qZH hi] | rw [qUG hp hi, qZG hi] | rw [qUV hp hi, qZH hi]
     refine yU ?_
     refine qQ ?_
     refine jH rfl (hc55) ?_
     refine qZ ?_
     refine qY (qU rfl) rfl rfl rfl ?_
     refine kY (F := vI) hs en27 rfl (fun w' h => kZ _ (by first | omega | assumption | (unfold In64; omega) | decide) w' h) rfl rfl ?_; intro r59 hr59
     have br59 := uJ hr59 (by first | decide | omega)
     refine qY (qKW rfl (by first | exact qVX ⟨by omega, by omega⟩ | rfl)) rfl rfl rfl ?_
     refine qY (kU rfl rfl (by first | exact zX ⟨by omega, by omega⟩ | rfl)) rfl rfl rfl ?_
     refine qY (qU rfl) rfl rfl rfl ?_
     refine kY (F := vI) hs en27 rfl (fun w' h => kZ _ (by first | omega | assumption | (unfold In64; omega) | decide) w' h) rfl rfl ?_; intro r63 hr63
     have br63 := uJ hr63 (by first | decide | omega)
     refine qY (kU rfl rfl (by first | exact zX ⟨by omega, by omega⟩ | rfl)) rfl rfl rfl ?_
     refine qY (qX qHX rfl) rfl rfl rfl ?_
     refine qG 5 ty2 rfl rfl rfl rfl rfl rfl rfl rfl ?_
     refine qY (qX qHU rfl) rfl rfl rfl ?_
     refine qG 5 ty2 rfl rfl rfl rfl rfl rfl rfl rfl ?_
     refine qJ ?_
     refine qH ?_
     refine qQ ?_
     refine qK ?_
     refine qZ ?_
     refine qY (qV 5 ty70 rfl rfl rfl) rfl rfl rfl ?_
     refine qG 4 ty70 rfl rfl rfl rfl rfl rfl rfl rfl ?_
     refine qJ ?_
     refine qQ ?_
     refine zV ?_
     refine zQ (rs := [.cell 4 70]) rfl (resC (zJ 4 rfl rfl ty70 rfl) (resN)) ?_
     subst_vars; rfl
    ·
     have hk4 : ¬ qQY (srcR L (i + 2) 8) = 4 := by have := of_decide_eq_false hc55; rw [hr19] at this; exact this
     refine qZ ?_
     refine qY (uK rfl rfl) rfl rfl rfl ?_
     refine qY (qW rfl) rfl rfl rfl ?_
     refine qJ ?_
     refine qQ ?_
     refine yX rfl (fun hc55_2 => ?_) (fun hc55_2 => ?_)
     ·
      have hk5 : qQY (srcR L (i + 2) 8) = 5 := by have := of_decide_eq_true hc55_2; rw [hr19] at this; exact this
      rw [qKH (.inr hk5)]
      first | rw [qXQ hp hi, qZG hi] | rw [qUH hp hi, qZH hi] | rw [qUG hp hi, qZG hi] | rw [qUV hp hi, qZH hi]
      refine qZ ?_
      refine qY (qU rfl) rfl rfl rfl ?_
      refine kY (F := vI) hs en27 rfl (fun w' h => kZ _ (by first | omega | assumption | (unfold In64; omega) | decide) w' h) rfl rfl ?_; intro r59 hr59
      have br59 := uJ hr59 (by first | decide | omega)
      refine qY (qKW rfl (by first | exact qVX ⟨by omega, by omega⟩ | rfl)) rfl rfl rfl ?_
      refine qY (kU rfl rfl (by first | exact zX ⟨by omega, by omega⟩ | rfl)) rfl rfl rfl ?_
      refine qY (qU rfl) rfl rfl rfl ?_
      refine kY (F := vI) hs en27 rfl (fun w' h => kZ _ (by first | omega | assumption | (unfold In64; omega) | decide) w' h) rfl rfl ?_; intro r63 hr63
      have br63 := uJ hr63 (by first | decide | omega)
      refine qY (kU rfl rfl (by first | exact zX ⟨by omega, by omega⟩ | rfl)) rfl rfl rfl ?_
      refine qY (qX qHX rfl) rfl rfl rfl ?_
      refine qG 5 ty2 rfl rfl rfl rfl rfl rfl rfl rfl ?_
      refine qY (qX qHU rfl) rfl rfl rfl ?_
      refine qG 5 ty2 rfl rfl rfl rfl rfl rfl rfl rfl ?_
      refine qJ ?_
      refine qH ?_
      refine qQ ?_
      refine qK ?_
      refine qZ ?_
      refine qY (qV 5 ty70 rfl rfl rfl) rfl rfl rfl ?_
      refine qG 4 ty70 rfl rfl rfl rfl rfl rfl rfl rfl ?_
      refine qJ ?_
      refine qQ ?_
      refine zV ?_
      refine zQ (rs := [.cell 4 70]) rfl (resC (zJ 4 rfl rfl ty70 rfl) (resN)) ?_
      subst_vars; rfl
     ·
      have hk5 : ¬ qQY (srcR L (i + 2) 8) = 5 := by have := of_decide_eq_false hc55_2; rw [hr19] at this; exact this
      rw [jointOf_tu hk0 (by omega)]
      first | rw [qXQ hp hi, qZG hi] | rw [qUH hp hi, qZH hi] | rw [qUG hp hi, qZG hi] | rw [qUV hp hi, qZH hi]
      refine qZ ?_
      refine qY (qU rfl) rfl rfl rfl ?_
      refine kY (F := vI) hs en27 rfl (fun w' h => kZ _ (by first | omega | assumption | (unfold In64; omega) | decide) w' h) rfl rfl ?_; intro r39 hr39
      have br39 := uJ hr39 (by first | decide | omega)
      refine qY (qKW rfl (by first | exact qVX ⟨by omega, by omega⟩ | rfl)) rfl rfl rfl ?_
      refine qY (kU rfl rfl (by first | exact zX ⟨by omega, by omega⟩ | rfl)) rfl rfl rfl ?_
      refine qY (qWZ rfl rfl (by first | decide | omega) (quo8 (by omega))) rfl rfl rfl ?_
      refine qY (qU rfl) rfl rfl rfl ?_
      refine kY (F := vI) hs en27 rfl (fun w' h => kZ _ (by first | omega | assumption | (unfold In64; omega) | decide) w' h) rfl rfl ?_; intro r44 hr44
      have br44 := uJ hr44 (by first | decide | omega)
      refine qY (jU rfl rfl (by first | exact zX ⟨by omega, by omega⟩ | rfl)) rfl rfl rfl ?_
      refine qY (kU rfl rfl (by first | exact zX ⟨by omega, by omega⟩ | rfl)) rfl rfl rfl ?_
      refine qY (qWZ rfl rfl (by first | decide | omega) (quo8 (by omega))) rfl rfl rfl ?_
      refine qY (qU rfl) rfl rfl rfl ?_
      refine kY (F := vI) hs en27 rfl (fun w' h => kZ _ (by first | omega | assumption | (unfold In64; omega) | decide) w' h) rfl rfl ?_; intro r49 hr49
      have br49 := uJ hr49 (by first | decide | omega)
      refine qY (jU rfl rfl (hi8 br44 br49)) rfl rfl rfl ?_
      refine qY (qX qHX rfl) rfl rfl rfl ?_
      refine qG 5 ty2 rfl rfl rfl rfl rfl rfl rfl rfl ?_
      refine qY (qX qHU rfl) rfl rfl rfl ?_
      refine qG 5 ty2 rfl rfl rfl rfl rfl rfl rfl rfl ?_
      refine qJ ?_
      refine qH ?_
      refine qQ ?_
      refine qK ?_
      refine qZ ?_
      refine qY (qV 5 ty70 rfl rfl rfl) rfl rfl rfl ?_
      refine qG 4 ty70 rfl rfl rfl rfl rfl rfl rfl rfl ?_
      refine qJ ?_
      refine qQ ?_
      refine zV ?_
      refine zQ (rs := [.cell 4 70]) rfl (resC (zJ 4 rfl rfl ty70 rfl) (resN)) ?_
      subst_vars; rfl
end Go.Proofs.YtmbnpjpggccefaaGreat
namespace Go.Proofs.YtmbnpjpggccefaaGreat
open Go.Sx
theorem ze25 : qZY Tryz.prog 25 (.agg #[.slice none 0 0, .slice none 0 0]) := by unfold qZY; kernel_rfl
theorem zQJ : qUK Tryz.prog 25 0 0 = true := by kernel_rfl
theorem ty22 : tyB Tryz.prog 22 false 1 = true := by kernel_rfl
theorem en56 : yG Tryz.prog 56 := zZ Tryz.func56 (by kernel_rfl) (by kernel_rfl)
theorem sl22 : slcB Tryz.prog 22 70 12 = true := by kernel_rfl
theorem app22 : appB Tryz.prog 22 70 12 104 = true := by kernel_rfl
theorem fa25_1 : qUK Tryz.prog 25 1 1 = true := by kernel_rfl
theorem ty23 : tyB Tryz.prog 23 false 1 = true := by kernel_rfl
theorem la113 : qZW Tryz.prog 113 = some ([.int .i64 0, .int .i64 0, .int .i64 0, .int .i64 0, .int .i64 0], [(0, 1), (1, 1), (2, 3)]) := by kernel_rfl
theorem sl23 : slcB Tryz.prog 23 113 5 = true := by kernel_rfl
theorem ze113 : qZY Tryz.prog 113 (.agg #[.int .i64 0, .int .i64 0, .int .i64 0, .int .i64 0, .int .i64 0]) := by unfold qZY; kernel_rfl
theorem app23 : appB Tryz.prog 23 113 5 40 = true := by kernel_rfl
theorem ty25 : tyB Tryz.prog 25 true 2 = true := by kernel_rfl
theorem own_capK {m e sz cap k : Nat} {a : Option Addr} {ys : List Value} {w : World} (h : OwnF m e sz a cap k ys w) : k ≤ cap := by
 rcases h.2 with ⟨h1, h2⟩ | ⟨gg, cp, cur, hv, _, _, hc, _⟩
 ·omega
 ·simp only [Value.slice.injEq] at hv
  omega
theorem qHY {k : Nat} (h : k ≤ 1000000) : IntKind.i64.wrap ((k : Int) + 1) = ((k + 1 : Nat) : Int) := by
 refine (zX ?_).trans ?_ <;> omega
theorem dec_rem {n k : Nat} (hn : n ≤ 1000) (h : k < n) : IntKind.i64.wrap (((n - k : Nat) : Int) - 1) = ((n - (k + 1) : Nat) : Int) := by
 refine (zX ?_).trans ?_ <;> omega
theorem mkRobot {b : Nat} {sl : Value} {L : List Int} {i : Nat} (w : World) (hs : Src w b sl L i) : Calls Tryz.prog 26 [.pointer (some ⟨b, 0, none⟩)].toArray w (RetsF (X := (Option Addr × Nat) × (Option Addr × Nat)) (fun x => nJ L i ≤ x.1.2 ∧ nM L i ≤ x.2.2) (fun x => .agg #[.slice x.1.1 (nJ L i) x.1.2, .slice x.2.1 (nM L i) x.2.2]) (fun x w => SlcIs 12 x.1.1 ((jsOf L i (nJ L i)).1.map jc) w ∧ SlcIs 5 x.2.1 ((msOf L i (nM L i)).map mc) w) (srcW w b sl L (robQ L i))) := by
 refine calls_src (n := 49) hs Tryz.func26 rfl rfl rfl ?_
 refine qK ?_
 refine qZ ?_
 refine yK 2 ze25 rfl rfl rfl ?_; intro b2
 refine qJ ?_
 refine qQ ?_
 refine qK ?_
 refine qZ ?_
 refine yK 3 ze25 rfl rfl rfl ?_; intro b3
 refine qJ ?_
 refine qQ ?_
 refine qK ?_
 refine doC_ownA 100 70 12 ?_
 refine doC_ownA 101 113 5 ?_
 have hn := nJ_b L i
 have hm := nM_b L i
 refine qZ ?_
 refine qY (qU rfl) rfl rfl rfl ?_
 refine kY (F := vI) hs en27 rfl (fun w' h => kZ _ (by first | omega | assumption | (unfold In64; omega) | decide) w' h) rfl rfl ?_; intro r8 hr8
 have br8 := uJ hr8 (by first | decide | omega)
 refine qY (jU rfl rfl (by first | exact zX ⟨by omega, by omega⟩ | rfl)) rfl rfl rfl ?_
 refine qY (qW rfl) rfl rfl rfl ?_
 refine qJ ?_
 refine qQ ?_
 refine qK ?_
 refine qK ?_
 refine qZ ?_
 refine qY (qW rfl) rfl rfl rfl ?_
 refine qJ ?_
 refine qQ ?_
 refine jX ?_
 refine doC_loopK [0, 2, 3, 4] [2] (α := Nat × Option Addr × Nat) (fun x => nJ L i - x.1) (fun x => x.1 ≤ nJ L i) (fun x => srcB ⟨w, [(101, ownD none, OwnF 0 113 5 none 0 0 []), (100, ownD x.2.1, OwnF 0 70 12 x.2.1 x.2.2 x.1 (jsC L i x.1))]⟩ b sl L (jsOf L i x.1).2) (fun x => [(5, .int .i64 (x.1 : Int))]) (fun x => [(3, b3, [.slice x.2.1 x.1 x.2.2, .slice none 0 0], 25)]) (0, none, 0) rfl rfl ?_ ?_ ?_ ?_ rfl ?_
 ·
  exact Nat.zero_le _
 ·
  exact rfl
 ·
  repeat' first | exact trivial | exact True.intro | refine ⟨rfl, ?_⟩
 ·
  repeat' first | exact trivial | exact True.intro | refine ⟨rfl, ?_⟩
 rintro ⟨k, a, cap⟩ hk
 dsimp only at hk ⊢
 refine qK ?_
 refine qK ?_
 refine qZ ?_
 refine qY (qU rfl) rfl rfl rfl ?_
 refine qY (qU rfl) rfl rfl rfl ?_
 refine qY (qZJ rfl rfl) rfl rfl rfl ?_
 refine qJ ?_
 refine qQ ?_
 refine yX rfl (fun hc12 => ?_) (fun hc12 => ?_)
 ·
  have h2 : k < nJ L i := by have := of_decide_eq_true hc12; omega
  refine yU ?_
  refine qQ ?_
  refine qK ?_
  refine jX ?_
  refine doC_srcA 6 [4] hs mo (by kernel_rfl) ?_
  simp only [List.take_succ_cons, List.take_zero, List.drop_succ_cons, List.drop_zero]
  refine qJV (fun _ => qX zQJ rfl) rfl rfl rfl rfl ?_
  refine qJV (fun _ => zW 3 ty22 rfl rfl rfl) rfl rfl rfl rfl ?_
  refine qJV (fun _ => qU rfl) rfl rfl rfl rfl ?_
  refine qJV (fun _ => qU rfl) rfl rfl rfl rfl ?_
  refine doM_srcA (F := jv) hs en56 rfl (fun w' h => mkJoint _ (by first | omega | assumption | (unfold In64; omega) | decide) w' h) rfl rfl rfl ?_; intro r19 hr19
  refine doM_bslice (famA hs _) sl22 ze70 rfl rfl rfl rfl rfl rfl rfl rfl rfl rfl ?_
  refine doM_nil ?_
  refine tail_row ?_; intro bb20
  refine tail_appendA 100 app22 rfl rfl rfl rfl rfl rfl (by omega) (by omega) rfl rfl ?_; intro a21 c21 R21 hR21
  obtain rfl := Option.some.inj hR21
  refine qY (qX zQJ rfl) rfl rfl rfl ?_
  refine qG 3 ty22 rfl rfl rfl rfl rfl rfl rfl rfl ?_
  refine qJ ?_
  refine qH ?_
  refine qQ ?_
  refine qZ ?_
  refine qY (qU rfl) rfl rfl rfl ?_
  refine qY (jU rfl rfl (qHY (by omega))) rfl rfl rfl ?_
  refine qY (qW rfl) rfl rfl rfl ?_
  refine qJ ?_
  refine qYZ (k + 1, a21, c21) (by show k + 1 ≤ _; omega) (by show nJ L i - (k + 1) < nJ L i - k; omega) (by dsimp only; rw [jsC_succ, ← hr19]; rfl) ?_ ?_ rfl
  repeat' first | exact trivial | exact True.intro | refine ⟨rfl, ?_⟩
 ·
  obtain rfl : k = nJ L i := by have := of_decide_eq_false hc12; omega
  refine qWH ?_
  refine jW ?_
  refine jW ?_
  refine uG ?_
  refine qQ ?_
  refine qK ?_
  refine qK ?_
  refine qZ ?_
  refine qY (qU rfl) rfl rfl rfl ?_
  refine kY (F := vI) hs en27 rfl (fun w' h => kZ _ (by first | omega | assumption | (unfold In64; omega) | decide) w' h) rfl rfl ?_; intro r24 hr24
  have br24 := uJ hr24 (by first | decide | omega)
  obtain rfl : r24 = ((nM L i : Nat) : Int) := by rw [hr24]; exact hm.2.symm
  refine qY (qW rfl) rfl rfl rfl ?_
  refine qJ ?_
  refine qQ ?_
  refine jX ?_
  refine doC_loopK [0, 2, 3, 4] [2] (α := Nat × Option Addr × Nat) (fun x => nM L i - x.1) (fun x => x.1 ≤ nM L i) (fun x => srcB ⟨w, [(101, ownD x.2.1, OwnF 0 113 5 x.2.1 x.2.2 x.1 (msC L i x.1)), (100, ownD a, OwnF 0 70 12 a cap (nJ L i) (jsC L i (nJ L i)))]⟩ b sl L (mQ L i + 1 + 4 * x.1)) (fun x => [(6, .int .i64 ((nM L i - x.1 : Nat) : Int))]) (fun x => [(3, b3, [.slice a (nJ L i) cap, .slice x.2.1 x.1 x.2.2], 25)]) (0, none, 0) rfl rfl ?_ ?_ ?_ ?_ rfl ?_
  ·
   exact Nat.zero_le _
  ·
   exact rfl
  ·
   repeat' first | exact trivial | exact True.intro | refine ⟨rfl, ?_⟩
  ·
   repeat' first | exact trivial | exact True.intro | refine ⟨rfl, ?_⟩
  rintro ⟨k2, a2, cap2⟩ hk2
  dsimp only at hk2 ⊢
  refine qK ?_
  refine qK ?_
  refine qZ ?_
  refine qY (qU rfl) rfl rfl rfl ?_
  refine qY (opV_gtr rfl rfl) rfl rfl rfl ?_
  refine qJ ?_
  refine qQ ?_
  refine yX rfl (fun hc26 => ?_) (fun hc26 => ?_)
  ·
   have h3 : k2 < nM L i := by have := of_decide_eq_true hc26; omega
   refine yU ?_
   refine qQ ?_
   refine qK ?_
   refine jX ?_
   refine doC_srcA 17 [4, 6, 9, 12] hs mo (by kernel_rfl) ?_
   simp only [List.take_succ_cons, List.take_zero, List.drop_succ_cons, List.drop_zero]
   refine qJV (fun _ => qX fa25_1 rfl) rfl rfl rfl rfl ?_
   refine qJV (fun _ => zW 3 ty23 rfl rfl rfl) rfl rfl rfl rfl ?_
   refine qJV (fun _ => qU rfl) rfl rfl rfl rfl ?_
   refine qJV (fun _ => qU rfl) rfl rfl rfl rfl ?_
   refine doM_srcA (F := vI) hs en27 rfl (fun w' h => kZ _ (by first | omega | assumption | (unfold In64; omega) | decide) w' h) rfl rfl rfl ?_; intro r33 hr33
   have br33 := uJ hr33 (by first | decide | omega)
   refine qJV (fun _ => qU rfl) rfl rfl rfl rfl ?_
   refine doM_srcA (F := vI) hs en27 rfl (fun w' h => kZ _ (by first | omega | assumption | (unfold In64; omega) | decide) w' h) rfl rfl rfl ?_; intro r35 hr35
   have br35 := uJ hr35 (by first | decide | omega)
   refine qJV (fun _ => jU rfl rfl (by first | exact zX ⟨by omega, by omega⟩ | rfl)) rfl rfl rfl rfl ?_
   refine qJV (fun _ => qU rfl) rfl rfl rfl rfl ?_
   refine doM_srcA (F := vI) hs en29 rfl (fun w' h => qXZ _ (by first | omega | assumption | (unfold In64; omega) | decide) w' h) rfl rfl rfl ?_; intro r38 hr38
   have br38 := zQK hr38 (by first | decide | omega)
   refine qJV (fun _ => kU rfl rfl (by first | exact zX ⟨by omega, by omega⟩ | rfl)) rfl rfl rfl rfl ?_
   refine qJV (fun _ => qU rfl) rfl rfl rfl rfl ?_
   refine doM_srcA (F := vI) hs en29 rfl (fun w' h => qXZ _ (by first | omega | assumption | (unfold In64; omega) | decide) w' h) rfl rfl rfl ?_; intro r41 hr41
   have br41 := zQK hr41 (by first | decide | omega)
   refine qJV (fun _ => kU rfl rfl (by first | exact zX ⟨by omega, by omega⟩ | rfl)) rfl rfl rfl rfl ?_
   refine qJV (fun _ => zU la39 rfl rfl) rfl rfl rfl rfl ?_
   refine qJV (fun _ => zU la113 rfl rfl) rfl rfl rfl rfl ?_
   refine doM_bslice (famA hs _) sl23 ze113 rfl rfl rfl rfl rfl rfl rfl rfl rfl rfl ?_
   refine doM_nil ?_
   refine tail_row ?_; intro bb45
   refine tail_appendA 101 app23 rfl rfl rfl rfl rfl rfl (by omega) (by omega) rfl rfl ?_; intro a46 c46 R46 hR46
   obtain rfl := Option.some.inj hR46
   refine qY (qX fa25_1 rfl) rfl rfl rfl ?_
   refine qG 3 ty23 rfl rfl rfl rfl rfl rfl rfl rfl ?_
   refine qJ ?_
   refine qH ?_
   refine qQ ?_
   refine qZ ?_
   refine qY (qU rfl) rfl rfl rfl ?_
   refine qY (qZQ rfl rfl (dec_rem (by omega) h3)) rfl rfl rfl ?_
   refine qY (qW rfl) rfl rfl rfl ?_
   refine qJ ?_
   refine qYZ (k2 + 1, a46, c46) (by show k2 + 1 ≤ _; omega) (by show nM L i - (k2 + 1) < nM L i - k2; omega) (by dsimp only; rw [msC_succ, hr33, hr35, hr38, hr41, hr8, hn.2.2]; rfl) ?_ ?_ rfl
   repeat' first | exact trivial | exact True.intro | refine ⟨rfl, ?_⟩
  ·
   obtain rfl : k2 = nM L i := by have := of_decide_eq_false hc26; omega
   refine qWH ?_
   refine jW ?_
   refine jW ?_
   refine uG ?_
   refine qQ ?_
   refine qK ?_
   refine qZ ?_
   refine qY (qV 3 ty25 rfl rfl rfl) rfl rfl rfl ?_
   refine qG 2 ty25 rfl rfl rfl rfl rfl rfl rfl rfl ?_
   refine qJ ?_
   refine qQ ?_
   refine zV ?_
   refine qJQ (rs := [.cell 2 25]) rfl (resC (zJ 2 rfl rfl ty25 rfl) (resN)) rfl ?_
   intro w2 kn
   obtain ⟨_, q2, q3⟩ := kn.facts _ List.mem_cons_self
   obtain ⟨_, q5, q6⟩ := kn.facts _ (List.mem_cons_of_mem _ List.mem_cons_self)
   exact ⟨((a, cap), (a2, cap2)), ⟨own_capK q6, own_capK q3⟩, rfl, kn.grow, told_and ⟨ownD a, slc_dep _ _ _, fun q hq => ⟨(q5 q hq).1, (q5 q hq).2.1⟩, js_slc q6⟩ ⟨ownD a2, slc_dep _ _ _, fun q hq => ⟨(q2 q hq).1, (q2 q hq).2.1⟩, ms_slc q3⟩⟩
end Go.Proofs.YtmbnpjpggccefaaGreat
namespace Go.Proofs.YtmbnpjpggccefaaGreat
open Go.Sx
theorem sl30 : slcB Tryz.prog 30 71 2 = true := by kernel_rfl
end Go.Proofs.YtmbnpjpggccefaaGreat
namespace Go.Proofs.YtmbnpjpggccefaaGreat
open Go.Sx
theorem en146 : yG Tryz.prog 146 := zZ Tryz.func146 (by kernel_rfl) (by kernel_rfl)
theorem en71 : yG Tryz.prog 71 := zZ Tryz.func71 (by kernel_rfl) (by kernel_rfl)
theorem ze118 : qZY Tryz.prog 118 (.agg #[.nilFunc]) := by unfold qZY; kernel_rfl
theorem la118 : qZW Tryz.prog 118 = some ([.nilFunc], [(0, 1)]) := by kernel_rfl
theorem ty118 : tyB Tryz.prog 118 true 1 = true := by kernel_rfl
theorem en60 : yG Tryz.prog 60 := zZ Tryz.func60 (by kernel_rfl) (by kernel_rfl)
theorem fl118_0 : fldB Tryz.prog 118 0 0 = true := by kernel_rfl
theorem en57 : yG Tryz.prog 57 := zZ Tryz.func57 (by kernel_rfl) (by kernel_rfl)
theorem kTurn (k : Int) (a0 a1 : Int) (w : World) : Calls Tryz.prog 100 [.int .i64 k, .agg #[.int .i64 a0, .int .i64 a1]].toArray w (Rets (po (Po.turn k (⟨a0, a1⟩ : Iv))) (w)) := by
 refine zK (n := 8) Tryz.func100 rfl rfl rfl ?_
 refine qK ?_
 refine qZ ?_
 refine jJ 3 rfl rfl rfl rfl ?_; intro b3
 refine yK 4 ze77 rfl rfl rfl ?_; intro b4
 refine qJ ?_
 refine qQ ?_
 refine qK ?_
 refine qZ ?_
 refine qY (qU rfl) rfl rfl rfl ?_
 refine qY (qV 3 ty71 rfl rfl rfl) rfl rfl rfl ?_
 refine jG (F := po) (zY en146 rfl (fun w _ => pTurn _ _ _  w)) rfl rfl rfl ?_; intro r7 hr7
 refine qG 4 ty77 rfl rfl rfl rfl rfl rfl rfl rfl ?_
 refine qJ ?_
 refine qQ ?_
 refine zV ?_
 refine zQ (rs := [.cell 4 77]) rfl (resC (zJ 4 rfl rfl ty77 rfl) (resN)) (congrArg (po) (?_ : ⟨⟨⟨⟨_, _⟩, ⟨_, _⟩, ⟨_, _⟩⟩, ⟨⟨_, _⟩, ⟨_, _⟩, ⟨_, _⟩⟩, ⟨⟨_, _⟩, ⟨_, _⟩, ⟨_, _⟩⟩⟩, ⟨⟨_, _⟩, ⟨_, _⟩, ⟨_, _⟩⟩⟩ = Po.turn k (⟨a0, a1⟩ : Iv)))
 subst_vars; rfl
theorem kSlide (k : Int) (a0 a1 : Int) (hk : 0 ≤ k ∧ k ≤ 2) (w : World) : Calls Tryz.prog 101 [.int .i64 k, .agg #[.int .i64 a0, .int .i64 a1]].toArray w (Rets (po (Po.shift (V3.put k (⟨a0, a1⟩ : Iv)))) (w)) := by
 refine zK (n := 11) Tryz.func101 rfl rfl rfl ?_
 refine qK ?_
 refine qZ ?_
 refine jJ 3 rfl rfl rfl rfl ?_; intro b3
 refine yK 4 ze77 rfl rfl rfl ?_; intro b4
 refine qJ ?_
 refine qQ ?_
 refine qK ?_
 refine qZ ?_
 refine yK 5 ze75 rfl rfl rfl ?_; intro b5
 refine qJ ?_
 refine qQ ?_
 refine qK ?_
 rcases (show k = 0 ∨ k = 1 ∨ k = 2 by omega) with rfl | rfl | rfl
 ·
  refine qZ ?_
  refine qY (qU rfl) rfl rfl rfl ?_
  refine qY (qV 3 ty71 rfl rfl rfl) rfl rfl rfl ?_
  refine qY (yY ar75 rfl rfl (by first | decide | omega) (by first | decide | omega)) rfl rfl rfl ?_
  refine qG 5 ty71 rfl rfl rfl rfl rfl rfl rfl rfl ?_
  refine qJ ?_
  refine qQ ?_
  refine qK ?_
  refine qZ ?_
  refine qY (qV 5 ty75 rfl rfl rfl) rfl rfl rfl ?_
  refine jG (F := po) (zY en58 rfl (fun w _ => pShift _ _ _ _ _ _  w)) rfl rfl rfl ?_; intro r10 hr10
  refine qG 4 ty77 rfl rfl rfl rfl rfl rfl rfl rfl ?_
  refine qJ ?_
  refine qQ ?_
  refine zV ?_
  refine zQ (rs := [.cell 4 77]) rfl (resC (zJ 4 rfl rfl ty77 rfl) (resN)) (congrArg (po) (?_ : ⟨⟨⟨⟨_, _⟩, ⟨_, _⟩, ⟨_, _⟩⟩, ⟨⟨_, _⟩, ⟨_, _⟩, ⟨_, _⟩⟩, ⟨⟨_, _⟩, ⟨_, _⟩, ⟨_, _⟩⟩⟩, ⟨⟨_, _⟩, ⟨_, _⟩, ⟨_, _⟩⟩⟩ = Po.shift (V3.put 0 (⟨a0, a1⟩ : Iv))))
  subst_vars; rfl
 ·
  refine qZ ?_
  refine qY (qU rfl) rfl rfl rfl ?_
  refine qY (qV 3 ty71 rfl rfl rfl) rfl rfl rfl ?_
  refine qY (yY ar75 rfl rfl (by first | decide | omega) (by first | decide | omega)) rfl rfl rfl ?_
  refine qG 5 ty71 rfl rfl rfl rfl rfl rfl rfl rfl ?_
  refine qJ ?_
  refine qQ ?_
  refine qK ?_
  refine qZ ?_
  refine qY (qV 5 ty75 rfl rfl rfl) rfl rfl rfl ?_
  refine jG (F := po) (zY en58 rfl (fun w _ => pShift _ _ _ _ _ _  w)) rfl rfl rfl ?_; intro r10 hr10
  refine qG 4 ty77 rfl rfl rfl rfl rfl rfl rfl rfl ?_
  refine qJ ?_
  refine qQ ?_
  refine zV ?_
  refine zQ (rs := [.cell 4 77]) rfl (resC (zJ 4 rfl rfl ty77 rfl) (resN)) (congrArg (po) (?_ : ⟨⟨⟨⟨_, _⟩, ⟨_, _⟩, ⟨_, _⟩⟩, ⟨⟨_, _⟩, ⟨_, _⟩, ⟨_, _⟩⟩, ⟨⟨_, _⟩, ⟨_, _⟩, ⟨_, _⟩⟩⟩, ⟨⟨_, _⟩, ⟨_, _⟩, ⟨_, _⟩⟩⟩ = Po.shift (V3.put 1 (⟨a0, a1⟩ : Iv))))
  subst_vars; rfl
 ·
  refine qZ ?_
  refine qY (qU rfl) rfl rfl rfl ?_
  refine qY (qV 3 ty71 rfl rfl rfl) rfl rfl rfl ?_
  refine qY (yY ar75 rfl rfl (by first | decide | omega) (by first | decide | omega)) rfl rfl rfl ?_
  refine qG 5 ty71 rfl rfl rfl rfl rfl rfl rfl rfl ?_
  refine qJ ?_
  refine qQ ?_
  refine qK ?_
  refine qZ ?_
  refine qY (qV 5 ty75 rfl rfl rfl) rfl rfl rfl ?_
  refine jG (F := po) (zY en58 rfl (fun w _ => pShift _ _ _ _ _ _  w)) rfl rfl rfl ?_; intro r10 hr10
  refine qG 4 ty77 rfl rfl rfl rfl rfl rfl rfl rfl ?_
  refine qJ ?_
  refine qQ ?_
  refine zV ?_
  refine zQ (rs := [.cell 4 77]) rfl (resC (zJ 4 rfl rfl ty77 rfl) (resN)) (congrArg (po) (?_ : ⟨⟨⟨⟨_, _⟩, ⟨_, _⟩, ⟨_, _⟩⟩, ⟨⟨_, _⟩, ⟨_, _⟩, ⟨_, _⟩⟩, ⟨⟨_, _⟩, ⟨_, _⟩, ⟨_, _⟩⟩⟩, ⟨⟨_, _⟩, ⟨_, _⟩, ⟨_, _⟩⟩⟩ = Po.shift (V3.put 2 (⟨a0, a1⟩ : Iv))))
  subst_vars; rfl
theorem kRest (k : Int) (a0 a1 : Int) (w : World) : Calls Tryz.prog 102 [.int .i64 k, .agg #[.int .i64 a0, .int .i64 a1]].toArray w (Rets (po (Po.rest)) (w)) := by
 refine zK (n := 6) Tryz.func102 rfl rfl rfl ?_
 refine qK ?_
 refine qZ ?_
 refine jJ 3 rfl rfl rfl rfl ?_; intro b3
 refine yK 4 ze77 rfl rfl rfl ?_; intro b4
 refine qJ ?_
 refine qQ ?_
 refine qK ?_
 refine qZ ?_
 refine jG (F := po) (zY en71 rfl (fun w _ => pIdentity   w)) rfl rfl rfl ?_; intro r5 hr5
 refine qG 4 ty77 rfl rfl rfl rfl rfl rfl rfl rfl ?_
 refine qJ ?_
 refine qQ ?_
 refine zV ?_
 refine zQ (rs := [.cell 4 77]) rfl (resC (zJ 4 rfl rfl ty77 rfl) (resN)) (congrArg (po) (?_ : ⟨⟨⟨⟨_, _⟩, ⟨_, _⟩, ⟨_, _⟩⟩, ⟨⟨_, _⟩, ⟨_, _⟩, ⟨_, _⟩⟩, ⟨⟨_, _⟩, ⟨_, _⟩, ⟨_, _⟩⟩⟩, ⟨⟨_, _⟩, ⟨_, _⟩, ⟨_, _⟩⟩⟩ = Po.rest))
 subst_vars; rfl
theorem kMotion (k : Int) (w : World) : Calls Tryz.prog 60 [.int .i64 k].toArray w (Rets (motV 100 101 102 k) w) := by
 refine zK (n := 22) Tryz.func60 rfl rfl rfl ?_
 refine qK ?_
 refine qZ ?_
 refine yK 2 ze118 rfl rfl rfl ?_; intro b2
 refine qJ ?_
 refine qQ ?_
 refine qK ?_
 refine qK ?_
 refine qZ ?_
 refine qY (qU rfl) rfl rfl rfl ?_
 refine qJ ?_
 refine qQ ?_
 refine jX ?_
 refine qK ?_
 refine qK ?_
 refine qZ ?_
 refine qY (uK rfl rfl) rfl rfl rfl ?_
 refine qY (qW rfl) rfl rfl rfl ?_
 refine qJ ?_
 refine qQ ?_
 refine yX rfl (fun hc4 => ?_) (fun hc4 => ?_)
 ·
  have e := of_decide_eq_true hc4
  refine yU ?_
  refine qQ ?_
  refine jH rfl (hc4) ?_
  refine qK ?_
  refine qZ ?_
  refine qY (qU rfl) rfl rfl rfl ?_
  refine qY (qZQ rfl rfl (by first | exact zX ⟨by omega, by omega⟩ | rfl)) rfl rfl rfl ?_
  refine qY (qYW rfl rfl) rfl rfl rfl ?_
  refine qY (zU la118 rfl rfl) rfl rfl rfl ?_
  refine qG 2 ty118 rfl rfl rfl rfl rfl rfl rfl rfl ?_
  refine qJ ?_
  refine qQ ?_
  refine zV ?_
  refine uW ?_
  refine jZ ?_
  refine qJQ (rs := [.cell 2 118]) rfl (resC (zJ 2 rfl rfl ty118 rfl) (resN)) rfl ?_
  intro w2 kn
  exact ⟨congrArg Ending.returned (by first | exact (mot_t (by omega)).symm | exact (mot_s (by omega)).symm | exact (mot_r (by omega) (by omega)).symm), kn.grow⟩
 ·
  have e := of_decide_eq_false hc4
  refine qK ?_
  refine qZ ?_
  refine qY (uK rfl rfl) rfl rfl rfl ?_
  refine qY (qW rfl) rfl rfl rfl ?_
  refine qJ ?_
  refine qQ ?_
  refine yX rfl (fun hc4_2 => ?_) (fun hc4_2 => ?_)
  ·
   have e := of_decide_eq_true hc4_2
   refine yU ?_
   refine qQ ?_
   refine jH rfl (hc4_2) ?_
   refine qK ?_
   refine qZ ?_
   refine qY (qU rfl) rfl rfl rfl ?_
   refine qY (qZQ rfl rfl (by first | exact zX ⟨by omega, by omega⟩ | rfl)) rfl rfl rfl ?_
   refine qY (qYW rfl rfl) rfl rfl rfl ?_
   refine qY (zU la118 rfl rfl) rfl rfl rfl ?_
   refine qG 2 ty118 rfl rfl rfl rfl rfl rfl rfl rfl ?_
   refine qJ ?_
   refine qQ ?_
   refine zV ?_
   refine uW ?_
   refine jZ ?_
   refine qJQ (rs := [.cell 2 118]) rfl (resC (zJ 2 rfl rfl ty118 rfl) (resN)) rfl ?_
   intro w2 kn
   exact ⟨congrArg Ending.returned (by first | exact (mot_t (by omega)).symm | exact (mot_s (by omega)).symm | exact (mot_r (by omega) (by omega)).symm), kn.grow⟩
  ·
   have e := of_decide_eq_false hc4_2
   refine qZ ?_
   refine qY (uK rfl rfl) rfl rfl rfl ?_
   refine qY (qW rfl) rfl rfl rfl ?_
   refine qJ ?_
   refine qQ ?_
   refine yX rfl (fun hc4_3 => ?_) (fun hc4_3 => ?_)
   ·
    have e := of_decide_eq_true hc4_3
    refine qK ?_
    refine qZ ?_
    refine qY (qU rfl) rfl rfl rfl ?_
    refine qY (qZQ rfl rfl (by first | exact zX ⟨by omega, by omega⟩ | rfl)) rfl rfl rfl ?_
    refine qY (qYW rfl rfl) rfl rfl rfl ?_
    refine qY (zU la118 rfl rfl) rfl rfl rfl ?_
    refine qG 2 ty118 rfl rfl rfl rfl rfl rfl rfl rfl ?_
    refine qJ ?_
    refine qQ ?_
    refine zV ?_
    refine uW ?_
    refine jZ ?_
    refine qJQ (rs := [.cell 2 118]) rfl (resC (zJ 2 rfl rfl ty118 rfl) (resN)) rfl ?_
    intro w2 kn
    exact ⟨congrArg Ending.returned (by first | exact (mot_t (by omega)).symm | exact (mot_s (by omega)).symm | exact (mot_r (by omega) (by omega)).symm), kn.grow⟩
   ·
    have e := of_decide_eq_false hc4_3
    refine qK ?_
    refine qK ?_
    refine qZ ?_
    refine qY (uK rfl rfl) rfl rfl rfl ?_
    refine qY (qW rfl) rfl rfl rfl ?_
    refine qJ ?_
    refine qQ ?_
    refine yX rfl (fun hc12 => ?_) (fun hc12 => ?_)
    ·
     have e := of_decide_eq_true hc12
     refine yU ?_
     refine qQ ?_
     refine jH rfl (hc12) ?_
     refine qK ?_
     refine qZ ?_
     refine qY (qU rfl) rfl rfl rfl ?_
     refine qY (qZQ rfl rfl (by first | exact zX ⟨by omega, by omega⟩ | rfl)) rfl rfl rfl ?_
     refine qY (qYW rfl rfl) rfl rfl rfl ?_
     refine qY (zU la118 rfl rfl) rfl rfl rfl ?_
     refine qG 2 ty118 rfl rfl rfl rfl rfl rfl rfl rfl ?_
     refine qJ ?_
     refine qQ ?_
     refine zV ?_
     refine uW ?_
     refine jZ ?_
     refine qJQ (rs := [.cell 2 118]) rfl (resC (zJ 2 rfl rfl ty118 rfl) (resN)) rfl ?_
     intro w2 kn
     exact ⟨congrArg Ending.returned (by first | exact (mot_t (by omega)).symm | exact (mot_s (by omega)).symm | exact (mot_r (by omega) (by omega)).symm), kn.grow⟩
    ·
     have e := of_decide_eq_false hc12
     refine qK ?_
     refine qZ ?_
     refine qY (uK rfl rfl) rfl rfl rfl ?_
     refine qY (qW rfl) rfl rfl rfl ?_
     refine qJ ?_
     refine qQ ?_
     refine yX rfl (fun hc12_2 => ?_) (fun hc12_2 => ?_)
     ·
      have e := of_decide_eq_true hc12_2
      refine yU ?_
      refine qQ ?_
      refine jH rfl (hc12_2) ?_
      refine qK ?_
      refine qZ ?_
      refine qY (qU rfl) rfl rfl rfl ?_
      refine qY (qZQ rfl rfl (by first | exact zX ⟨by omega, by omega⟩ | rfl)) rfl rfl rfl ?_
      refine qY (qYW rfl rfl) rfl rfl rfl ?_
      refine qY (zU la118 rfl rfl) rfl rfl rfl ?_
      refine qG 2 ty118 rfl rfl rfl rfl rfl rfl rfl rfl ?_
      refine qJ ?_
      refine qQ ?_
      refine zV ?_
      refine uW ?_
      refine jZ ?_
      refine qJQ (rs := [.cell 2 118]) rfl (resC (zJ 2 rfl rfl ty118 rfl) (resN)) rfl ?_
      intro w2 kn
      exact ⟨congrArg Ending.returned (by first | exact (mot_t (by omega)).symm | exact (mot_s (by omega)).symm | exact (mot_r (by omega) (by omega)).symm), kn.grow⟩
     ·
      have e := of_decide_eq_false hc12_2
      refine qZ ?_
      refine qY (uK rfl rfl) rfl rfl rfl ?_
      refine qY (qW rfl) rfl rfl rfl ?_
      refine qJ ?_
      refine qQ ?_
      refine yX rfl (fun hc12_3 => ?_) (fun hc12_3 => ?_)
      ·
       have e := of_decide_eq_true hc12_3
       refine qK ?_
       refine qZ ?_
       refine qY (qU rfl) rfl rfl rfl ?_
       refine qY (qZQ rfl rfl (by first | exact zX ⟨by omega, by omega⟩ | rfl)) rfl rfl rfl ?_
       refine qY (qYW rfl rfl) rfl rfl rfl ?_
       refine qY (zU la118 rfl rfl) rfl rfl rfl ?_
       refine qG 2 ty118 rfl rfl rfl rfl rfl rfl rfl rfl ?_
       refine qJ ?_
       refine qQ ?_
       refine zV ?_
       refine uW ?_
       refine jZ ?_
       refine qJQ (rs := [.cell 2 118]) rfl (resC (zJ 2 rfl rfl ty118 rfl) (resN)) rfl ?_
       intro w2 kn
       exact ⟨congrArg Ending.returned (by first | exact (mot_t (by omega)).symm | exact (mot_s (by omega)).symm | exact (mot_r (by omega) (by omega)).symm), kn.grow⟩
      ·
       have e := of_decide_eq_false hc12_3
       refine yU ?_
       refine qH ?_
       refine qQ ?_
       refine qK ?_
       refine qZ ?_
       refine qY (qYW rfl rfl) rfl rfl rfl ?_
       refine qY (zU la118 rfl rfl) rfl rfl rfl ?_
       refine qG 2 ty118 rfl rfl rfl rfl rfl rfl rfl rfl ?_
       refine qJ ?_
       refine qQ ?_
       refine zV ?_
       refine qJQ (rs := [.cell 2 118]) rfl (resC (zJ 2 rfl rfl ty118 rfl) (resN)) rfl ?_
       intro w2 kn
       exact ⟨congrArg Ending.returned (by first | exact (mot_t (by omega)).symm | exact (mot_s (by omega)).symm | exact (mot_r (by omega) (by omega)).symm), kn.grow⟩
theorem en_t : yG Tryz.prog 100 := zZ Tryz.func100 (by kernel_rfl) (by kernel_rfl)
theorem en_s : yG Tryz.prog 101 := zZ Tryz.func101 (by kernel_rfl) (by kernel_rfl)
theorem en_r : yG Tryz.prog 102 := zZ Tryz.func102 (by kernel_rfl) (by kernel_rfl)
theorem en_mot (k : Int) : yG Tryz.prog (if k = 1 ∨ k = 2 ∨ k = 3 then 100 else if k = 4 ∨ k = 5 ∨ k = 6 then 101 else 102) := by
 by_cases h : k = 1 ∨ k = 2 ∨ k = 3
 ·rw [if_pos h]; exact en_t
 ·by_cases h2 : k = 4 ∨ k = 5 ∨ k = 6
  ·rw [if_neg h, if_pos h2]; exact en_s
  ·rw [if_neg h, if_neg h2]; exact en_r
theorem kMove (k a0 a1 : Int) (w : World) : Calls Tryz.prog (if k = 1 ∨ k = 2 ∨ k = 3 then 100 else if k = 4 ∨ k = 5 ∨ k = 6 then 101 else 102) [.int .i64 (if k = 1 ∨ k = 2 ∨ k = 3 then k - 1 else if k = 4 ∨ k = 5 ∨ k = 6 then k - 4 else 0), .agg #[.int .i64 a0, .int .i64 a1]].toArray w (Rets (po (jMot k ⟨a0, a1⟩)) w) := by
 by_cases h : k = 1 ∨ k = 2 ∨ k = 3
 ·rw [if_pos h, if_pos h, jMot_t h]; exact kTurn _ _ _ w
 ·by_cases h2 : k = 4 ∨ k = 5 ∨ k = 6
  ·rw [if_neg h, if_pos h2, if_neg h, if_pos h2, jMot_s h2]; exact kSlide _ _ _ (by omega) w
  ·rw [if_neg h, if_neg h2, if_neg h, if_neg h2, jMot_r h h2]; exact kRest _ _ _ w
theorem kJoint (a0 a1 : Int) (nm : ByteArray) (kind par ox oy oz jlo jhi we spd acc tq : Int) (w : World) : Calls Tryz.prog 30 [.agg #[.string nm, .int .i64 kind, .int .i64 par, .int .i64 ox, .int .i64 oy, .int .i64 oz, .int .i64 jlo, .int .i64 jhi, .int .i64 we, .int .i64 spd, .int .i64 acc, .int .i64 tq], .agg #[.int .i64 a0, .int .i64 a1]].toArray w (Rets (po (jPose kind ⟨ox, oy, oz⟩ (⟨a0, a1⟩ : Iv))) (w)) := by
 refine zK (n := 16) Tryz.func30 rfl rfl rfl ?_
 refine qK ?_
 refine qZ ?_
 refine jJ 2 rfl rfl rfl rfl ?_; intro b2
 refine jJ 3 rfl rfl rfl rfl ?_; intro b3
 refine yK 4 ze77 rfl rfl rfl ?_; intro b4
 refine qJ ?_
 refine qQ ?_
 refine qK ?_
 refine jV 11 mo (by kernel_rfl) ?_
 simp only [List.take_succ_cons, List.take_zero, List.drop_succ_cons, List.drop_zero]
 refine zH (qX zQG rfl) rfl rfl rfl ?_
 refine zH (qV 2 ty39 rfl rfl rfl) rfl rfl rfl ?_
 refine kK (F := v3) (zY en59 rfl (fun w _ => mPoint _ _ _  w)) rfl rfl rfl ?_; intro r7 hr7
 refine kK (F := po) (zY en58 rfl (fun w _ => pShift _ _ _ _ _ _  w)) rfl rfl rfl ?_; intro r8 hr8
 refine zH (qX qHW rfl) rfl rfl rfl ?_
 refine zH (zW 2 ty3 rfl rfl rfl) rfl rfl rfl ?_
 refine kK (F := motV 100 101 102) (zY en60 rfl (fun w _ => kMotion _  w)) rfl rfl rfl ?_; intro r11 hr11
 refine zH (opV_field1 fl118_0 rfl rfl) rfl rfl rfl ?_
 refine zH (qV 3 ty71 rfl rfl rfl) rfl rfl rfl ?_
 refine kK (F := po) (opV_callV (en_mot _) rfl rfl rfl (fun w _ => kMove _ _ _ w)) rfl rfl rfl ?_; intro r14 hr14
 refine kK (F := po) (zY en57 rfl (fun w _ => pCompose _ _ _ _ _ _ _ _ _ _ _ _ _ _ _ _ _ _ _ _ _ _ _ _ _ _ _ _ _ _ _ _ _ _ _ _ _ _ _ _ _ _ _ _ _ _ _ _  w)) rfl rfl rfl ?_; intro r15 hr15
 refine uU ?_
 refine kJ ?_
 refine qG 4 ty77 rfl rfl rfl rfl rfl rfl rfl rfl ?_
 refine qJ ?_
 refine qQ ?_
 refine zV ?_
 refine zQ (rs := [.cell 4 77]) rfl (resC (zJ 4 rfl rfl ty77 rfl) (resN)) (congrArg (po) (?_ : ⟨⟨⟨⟨_, _⟩, ⟨_, _⟩, ⟨_, _⟩⟩, ⟨⟨_, _⟩, ⟨_, _⟩, ⟨_, _⟩⟩, ⟨⟨_, _⟩, ⟨_, _⟩, ⟨_, _⟩⟩⟩, ⟨⟨_, _⟩, ⟨_, _⟩, ⟨_, _⟩⟩⟩ = jPose kind ⟨ox, oy, oz⟩ (⟨a0, a1⟩ : Iv)))
 have e8 : r8 = Po.shift r7 := hr8
 have e15 : r15 = Po.mul r8 r14 := hr15
 show r15 = _
 rw [e15, e8, hr7, hr14, hr11]
 rfl
end Go.Proofs.YtmbnpjpggccefaaGreat
namespace Go.Sx
def pc (p : Po) : List Value := [.int .i64 p.r.x.x.lo, .int .i64 p.r.x.x.hi, .int .i64 p.r.x.y.lo, .int .i64 p.r.x.y.hi, .int .i64 p.r.x.z.lo, .int .i64 p.r.x.z.hi, .int .i64 p.r.y.x.lo, .int .i64 p.r.y.x.hi, .int .i64 p.r.y.y.lo, .int .i64 p.r.y.y.hi, .int .i64 p.r.y.z.lo, .int .i64 p.r.y.z.hi, .int .i64 p.r.z.x.lo, .int .i64 p.r.z.x.hi, .int .i64 p.r.z.y.lo, .int .i64 p.r.z.y.hi, .int .i64 p.r.z.z.lo, .int .i64 p.r.z.z.hi, .int .i64 p.t.x.lo, .int .i64 p.t.x.hi, .int .i64 p.t.y.lo, .int .i64 p.t.y.hi, .int .i64 p.t.z.lo, .int .i64 p.t.z.hi]
def zRow : List Value := List.replicate 24 (.int .i64 0)
def lkP (ps : List Po) (j : J) (a : Iv) : Po := if j.parent = -1 then jPose j.kind j.off a else Po.mul (ps.getD j.parent.toNat Po.rest) (jPose j.kind j.off a)
def lks (js : List J) (bx : List Iv) : Nat → List Po
 | 0 => []
 | k + 1 => match js[k]?, bx[k]? with
  | some j, some a => lks js bx k ++ [lkP (lks js bx k) j a]
  | _, _ => lks js bx k
theorem lks_succ {js : List J} {bx : List Iv} {k : Nat} {j : J} {a : Iv} (h1 : js[k]? = some j) (h2 : bx[k]? = some a) : lks js bx (k + 1) = lks js bx k ++ [lkP (lks js bx k) j a] := by
 simp only [lks, h1, h2]
def lkR (ps : List Po) (m : Nat) : List (List Value) := ps.map pc ++ List.replicate m zRow
theorem lkR_set {ps : List Po} {m : Nat} (v : List Value) : (lkR ps (m + 1)).set ps.length v = ps.map pc ++ v :: List.replicate m zRow := by
 unfold lkR
 rw [List.set_append_right _ _ (by simp)]
 simp [List.replicate_succ]
theorem lkR_set2 {ps : List Po} {m : Nat} (u v : List Value) : (ps.map pc ++ u :: List.replicate m zRow).set ps.length v = ps.map pc ++ v :: List.replicate m zRow := by
 rw [List.set_append_right _ _ (by simp)]
 simp
theorem lkR_done {ps : List Po} {m : Nat} (p : Po) : ps.map pc ++ pc p :: List.replicate m zRow = lkR (ps ++ [p]) m := by
 unfold lkR
 simp
theorem lkR_at {ps : List Po} {m i : Nat} {u : List Value} (h : i < ps.length) : (ps.map pc ++ u :: List.replicate m zRow)[i]? = some (pc (ps.getD i Po.rest)) := by
 rw [List.getElem?_append_left (by simpa using h), List.getElem?_map]
 simp [List.getD_eq_getElem?_getD, h]
theorem lkR_me {ps : List Po} {m : Nat} {u : List Value} : (ps.map pc ++ u :: List.replicate m zRow)[ps.length]? = some u := by
 rw [List.getElem?_append_right (by simp)]
 simp
end Go.Sx
namespace Go.Proofs.YtmbnpjpggccefaaGreat
open Go.Sx
theorem app83 : appB Tryz.prog 83 77 24 192 = true := by kernel_rfl
theorem en30 : yG Tryz.prog 30 := zZ Tryz.func30 (by kernel_rfl) (by kernel_rfl)
theorem kLinks  (aj am ab : Option Addr) (cj nm cm cb n : Nat) (js : List J) (bx : List Iv) (hn : n ≤ 1000) (hjn : js.length = n) (hbn : bx.length = n) (hpar : ∀ (k : Nat) (j : J), js[k]? = some j → -1 ≤ j.parent ∧ j.parent < k) (w : World) (hS : SlcIs 12 aj (js.map jc) w) (hT : SlcIs 2 ab (bx.map ivc) w) : Calls Tryz.prog 65 [.agg #[.slice aj n cj, .slice am nm cm], .slice ab n cb].toArray w (RetsF (X := Nat) (fun _ => True) (fun b => .slice (some ⟨b, 0, none⟩) n n) (fun b => SlcIs 24 (some ⟨b, 0, none⟩) ((lks js bx n).map pc)) w) := by
 refine zK (n := 47) Tryz.func65 rfl rfl rfl ?_
 refine qK ?_
 refine qZ ?_
 refine jJ 2 rfl rfl rfl rfl ?_; intro b2
 refine qY (qW rfl) rfl rfl rfl ?_
 refine qJ ?_
 refine qQ ?_
 refine qK ?_
 refine qZ ?_
 refine qY (qX zQJ rfl) rfl rfl rfl ?_
 refine qY (zW 2 ty22 rfl rfl rfl) rfl rfl rfl ?_
 refine qY (opV_len_slice sl22 rfl) rfl rfl rfl ?_
 refine doL_make 11 (makeB_of app83 ze77) rfl (by omega) (by omega) rfl rfl ?_; intro b11
 refine qY (qW rfl) rfl rfl rfl ?_
 refine qJ ?_
 refine qQ ?_
 refine qK ?_
 refine qK ?_
 refine qZ ?_
 refine qY (qX zQJ rfl) rfl rfl rfl ?_
 refine qY (zW 2 ty22 rfl rfl rfl) rfl rfl rfl ?_
 refine qY (opV_len_slice sl22 rfl) rfl rfl rfl ?_
 refine qY (qU rfl) rfl rfl rfl ?_
 refine qJ ?_
 refine qQ ?_
 refine jX ?_
 refine doC_loopK [1, 2, 5, 13, 14] [2] (α := Nat × List Po) (fun x => n - x.1) (fun x => x.1 ≤ n ∧ lks js bx x.1 = x.2 ∧ x.2.length = x.1) (fun x => ⟨w, [(11, (· = b11), RowsF b11 24 77 (lkR x.2 (n - x.1)))]⟩) (fun x => [(15, .int .i64 (x.1 : Int))]) (fun _ => []) (0, []) rfl rfl ?_ ?_ ?_ ?_ rfl ?_
 ·
  exact ⟨Nat.zero_le _, rfl, rfl⟩
 ·
  exact rfl
 ·
  repeat' first | exact trivial | exact True.intro | refine ⟨rfl, ?_⟩
 ·
  repeat' first | exact trivial | exact True.intro | refine ⟨rfl, ?_⟩
 rintro ⟨k, ps⟩ ⟨hk, hps, hlen⟩
 dsimp only at hk hps hlen ⊢
 subst hlen
 refine qK ?_
 refine qZ ?_
 refine qY (qZJ rfl rfl) rfl rfl rfl ?_
 refine qJ ?_
 refine qQ ?_
 refine qK ?_
 refine yX rfl (fun hc16 => ?_) (fun hc16 => ?_)
 ·
  have h2 : ps.length < n := by have := of_decide_eq_true hc16; omega
  obtain ⟨j, hjk⟩ : ∃ j, js[ps.length]? = some j := ⟨_, List.getElem?_eq_getElem (by omega)⟩
  obtain ⟨a, hak⟩ : ∃ a, bx[ps.length]? = some a := ⟨_, List.getElem?_eq_getElem (by omega)⟩
  have hj : (js.map jc)[ps.length]? = some (jc j) := by rw [List.getElem?_map, hjk]; rfl
  have ha : (bx.map ivc)[ps.length]? = some (ivc a) := by rw [List.getElem?_map, hak]; rfl
  have hpj := hpar _ j hjk
  obtain ⟨m, hm⟩ : ∃ m, n - ps.length = m + 1 := ⟨n - ps.length - 1, by omega⟩
  rw [hm]
  have hz : (lkR ps (m + 1))[ps.length]? = some zRow := by unfold lkR; rw [List.getElem?_append_right (by simp)]; simp
  refine yU ?_
  refine qQ ?_
  refine qK ?_
  refine jX ?_
  refine qK ?_
  refine qZ ?_
  refine qY (qU rfl) rfl rfl rfl ?_
  refine qY (qYY (e := 70) (uX hS) (by kernel_rfl) rfl rfl rfl hj h2) rfl rfl rfl ?_
  refine qY (opV_loadSA (vs := [.string j.name, .int .i64 j.kind, .int .i64 j.parent, .int .i64 j.off.x, .int .i64 j.off.y, .int .i64 j.off.z, .int .i64 j.lo, .int .i64 j.hi, .int .i64 j.weight, .int .i64 j.speed, .int .i64 j.accel, .int .i64 j.torque]) ps.length 0 (uX hS) hj ty70 rfl rfl) rfl rfl rfl ?_
  refine yK 7 ze70 rfl rfl rfl ?_; intro b7
  refine qY (qW rfl) rfl rfl rfl ?_
  refine qG 7 ty70 rfl rfl rfl rfl rfl rfl rfl rfl ?_
  refine qJ ?_
  refine qQ ?_
  refine qK ?_
  refine jV 8 mo (by kernel_rfl) ?_
  simp only [List.take_succ_cons, List.take_zero, List.drop_succ_cons, List.drop_zero]
  refine zH (qU rfl) rfl rfl rfl ?_
  refine zH (qU rfl) rfl rfl rfl ?_
  refine zH (qV 7 ty70 rfl rfl rfl) rfl rfl rfl ?_
  refine zH (qU rfl) rfl rfl rfl ?_
  refine zH (qU rfl) rfl rfl rfl ?_
  refine zH (qYY (e := 71) (uX hT) (by kernel_rfl) rfl rfl rfl ha h2) rfl rfl rfl ?_
  refine zH (opV_loadSA (vs := [.int .i64 a.lo, .int .i64 a.hi]) ps.length 0 (uX hT) ha ty71 rfl rfl) rfl rfl rfl ?_
  refine kK (F := po) (zY en30 rfl (fun w _ => kJoint _ _ _ _ _ _ _ _ _ _ _ _ _ _ w)) rfl rfl rfl ?_; intro r27 hr27
  refine uU ?_
  refine kJ ?_
  refine qY (qYY (e := 77) ((qHH (id := 11) rfl).imp rowsF_slc) (by kernel_rfl) rfl rfl rfl hz h2) rfl rfl rfl ?_
  refine doL_storeRow (vs := pc r27) (j := ps.length) 11 ty77 rfl rfl rfl (by simp [lkR]) rfl rfl rfl rfl ?_; intro R28 hR28
  obtain rfl := Option.some.inj hR28
  rw [lkR_set]
  refine qJ ?_
  refine qQ ?_
  refine qK ?_
  refine qZ ?_
  refine qY (qX fa70_2 rfl) rfl rfl rfl ?_
  refine qY (zW 7 ty3 rfl rfl rfl) rfl rfl rfl ?_
  refine qY (opV_neq rfl rfl) rfl rfl rfl ?_
  refine qJ ?_
  refine qQ ?_
  refine yX rfl (fun hc31 => ?_) (fun hc31 => ?_)
  ·
   have hp : ¬ j.parent = -1 := by simpa using hc31
   have hpl : j.parent.toNat < ps.length := by omega
   have hpn : j.parent = ((j.parent.toNat : Nat) : Int) := by omega
   refine jV 12 mo (by kernel_rfl) ?_
   simp only [List.take_succ_cons, List.take_zero, List.drop_succ_cons, List.drop_zero]
   refine zH (qU rfl) rfl rfl rfl ?_
   refine zH (qU rfl) rfl rfl rfl ?_
   refine zH (qU rfl) rfl rfl rfl ?_
   refine zH (qX fa70_2 rfl) rfl rfl rfl ?_
   refine zH (zW 7 ty3 rfl rfl rfl) rfl rfl rfl ?_
   refine zH (qYY (e := 77) ((qHH (id := 11) rfl).imp rowsF_slc) (by kernel_rfl) rfl rfl hpn (lkR_at hpl) (by omega)) rfl rfl rfl ?_
   refine zH (opV_loadSA (vs := pc (ps.getD j.parent.toNat Po.rest)) j.parent.toNat 0 ((qHH (id := 11) rfl).imp rowsF_slc) (lkR_at hpl) ty77 rfl rfl) rfl rfl rfl ?_
   refine zH (qU rfl) rfl rfl rfl ?_
   refine zH (qU rfl) rfl rfl rfl ?_
   refine zH (qYY (e := 77) ((qHH (id := 11) rfl).imp rowsF_slc) (by kernel_rfl) rfl rfl rfl lkR_me h2) rfl rfl rfl ?_
   refine zH (opV_loadSA (vs := pc r27) ps.length 0 ((qHH (id := 11) rfl).imp rowsF_slc) lkR_me ty77 rfl rfl) rfl rfl rfl ?_
   refine kK (F := po) (zY en57 rfl (fun w _ => pCompose _ _ _ _ _ _ _ _ _ _ _ _ _ _ _ _ _ _ _ _ _ _ _ _ _ _ _ _ _ _ _ _ _ _ _ _ _ _ _ _ _ _ _ _ _ _ _ _  w)) rfl rfl rfl ?_; intro r43 hr43
   refine uU ?_
   refine kJ ?_
   refine qY (qYY (e := 77) ((qHH (id := 11) rfl).imp rowsF_slc) (by kernel_rfl) rfl rfl rfl lkR_me h2) rfl rfl rfl ?_
   refine doL_storeRow (vs := pc r43) (j := ps.length) 11 ty77 rfl rfl rfl (by simp [lkR]) rfl rfl rfl rfl ?_; intro R44 hR44
   obtain rfl := Option.some.inj hR44
   rw [lkR_set2]
   refine qJ ?_
   refine qH ?_
   refine qQ ?_
   refine qZ ?_
   refine qY (jU rfl rfl (qHY (by omega))) rfl rfl rfl ?_
   refine qY (qU rfl) rfl rfl rfl ?_
   refine qJ ?_
   refine qYZ (ps.length + 1, ps ++ [r43]) (by refine ⟨?_, ?_, ?_⟩ <;> dsimp only; omega; rw [lks_succ hjk hak, hps]; exact congrArg (fun x => ps ++ [x]) ((if_neg hp).trans (by rw [show r43 = Po.mul (ps.getD j.parent.toNat Po.rest) r27 from hr43, hr27]; try rfl)); simp) (by show n - (ps.length + 1) < n - ps.length; omega) (by dsimp only; rw [show n - (ps.length + 1) = m by omega, ← lkR_done]; try rfl) ?_ ?_ rfl
   repeat' first | exact trivial | exact True.intro | refine ⟨rfl, ?_⟩
  ·
   have hp : j.parent = -1 := by simpa using hc31
   refine yU ?_
   refine qH ?_
   refine qQ ?_
   refine qZ ?_
   refine qY (jU rfl rfl (qHY (by omega))) rfl rfl rfl ?_
   refine qY (qU rfl) rfl rfl rfl ?_
   refine qJ ?_
   refine qYZ (ps.length + 1, ps ++ [r27]) (by refine ⟨?_, ?_, ?_⟩ <;> dsimp only; omega; rw [lks_succ hjk hak, hps]; exact congrArg (fun x => ps ++ [x]) ((if_pos hp).trans hr27.symm); simp) (by show n - (ps.length + 1) < n - ps.length; omega) (by dsimp only; rw [show n - (ps.length + 1) = m by omega, ← lkR_done]; try rfl) ?_ ?_ rfl
   repeat' first | exact trivial | exact True.intro | refine ⟨rfl, ?_⟩
 ·
  have h2 : ps.length = n := by have := of_decide_eq_false hc16; omega
  refine qWH ?_
  refine jW ?_
  refine jW ?_
  refine uG ?_
  refine qQ ?_
  refine qK ?_
  refine qZ ?_
  refine qY (qU rfl) rfl rfl rfl ?_
  refine qY (qW rfl) rfl rfl rfl ?_
  refine qJ ?_
  refine qQ ?_
  refine zV ?_
  refine qJQ (rs := [.tmp 4]) rfl (resC (yH rfl) (resN)) rfl ?_
  intro w2 k2
  obtain ⟨_, q2, q3⟩ := k2.facts _ List.mem_cons_self
  refine ⟨b11, trivial, rfl, k2.grow, ownD _, slc_dep _ _ _, fun z hz => ?_, ?_⟩
  ·obtain ⟨ad, h1, h2⟩ := hz
   cases h1
   subst h2
   exact ⟨(q2 _ rfl).1, (q2 _ rfl).2.1⟩
  ·have q4 := rowsF_slc _ q3
   rw [← h2, hps]
   simpa [lkR, h2] using q4
end Go.Proofs.YtmbnpjpggccefaaGreat

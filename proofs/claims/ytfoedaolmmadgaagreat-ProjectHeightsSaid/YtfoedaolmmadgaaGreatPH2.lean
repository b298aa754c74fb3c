/- Part 2 of the texts behind the last one: rules and contracts. No condition. -/
import Derived.Test.YtfoedaolmmadgaaGreatPH1
namespace Go.Sx
structure Iv where
  lo : Int
  hi : Int
@[simp] theorem Iv.eta (x : Iv) : (⟨x.lo, x.hi⟩ : Iv) = x := rfl
def iv (x : Iv) : Value := .agg #[.int .i64 x.lo, .int .i64 x.hi]
def vI (x : Int) : Value := .int .i64 x
def vB (b : Bool) : Value := .bool b
def In64 (a : Int) : Prop := -9223372036854775808 ≤ a ∧ a ≤ 9223372036854775807
def clampI (a : Int) : Int := min (max a (-2147483648)) 2147483648
def ceilI (a b : Int) : Int := -((-a) / b)
def Iv.valid (a : Iv) : Bool := decide (-2147483648 ≤ a.lo) && decide (a.lo ≤ a.hi) && decide (a.hi ≤ 2147483648)
def Iv.limited (lo hi : Int) : Iv := ⟨clampI lo, clampI hi⟩
def Iv.of (x : Int) : Iv := ⟨clampI x, clampI x⟩
def Iv.neg (a : Iv) : Iv := bif a.valid then ⟨-a.hi, -a.lo⟩ else ⟨0, 0⟩
def Iv.add (a b : Iv) : Iv := bif a.valid && b.valid then ⟨clampI (a.lo + b.lo), clampI (a.hi + b.hi)⟩ else ⟨0, 0⟩
def Iv.sub (a b : Iv) : Iv := bif a.valid && b.valid then ⟨clampI (a.lo - b.hi), clampI (a.hi - b.lo)⟩ else ⟨0, 0⟩
def min4 (a b c d : Int) : Int := min (min (min a b) c) d
def max4 (a b c d : Int) : Int := max (max (max a b) c) d
def Iv.mul (a b : Iv) : Iv := bif a.valid && b.valid then
  ⟨clampI (min4 (a.lo * b.lo) (a.lo * b.hi) (a.hi * b.lo) (a.hi * b.hi) / 65536), clampI (ceilI (max4 (a.lo * b.lo) (a.lo * b.hi) (a.hi * b.lo) (a.hi * b.hi)) 65536)⟩ else ⟨0, 0⟩
def Iv.hull (a b : Iv) : Iv := bif a.valid && b.valid then ⟨min a.lo b.lo, max a.hi b.hi⟩ else ⟨0, 0⟩
def Iv.meetB (a b : Iv) : Bool := a.valid && b.valid && decide (max a.lo b.lo ≤ min a.hi b.hi)
def Iv.has (a : Iv) (x : Int) : Bool := a.valid && decide (a.lo ≤ x) && decide (x ≤ a.hi)
def Iv.within (a b : Iv) : Bool := a.valid && b.valid && decide (b.lo ≤ a.lo) && decide (a.hi ≤ b.hi)
def Iv.width (a : Iv) : Int := bif a.valid then a.hi - a.lo else 0
theorem Iv.valid_spec {a : Iv} (h : a.valid = true) : -2147483648 ≤ a.lo ∧ a.lo ≤ a.hi ∧ a.hi ≤ 2147483648 := by
  simp [Iv.valid] at h; omega
theorem valid_mk {x y : Int} (h : Iv.valid ⟨x, y⟩ = true) : -2147483648 ≤ x ∧ x ≤ y ∧ y ≤ 2147483648 := Iv.valid_spec h
theorem neg_in {x : Int} (h : -9223372036854775808 ≤ -x ∧ -x ≤ 9223372036854775807) : IntKind.i64.wrap (0 - x) = -x := by
  rw [Int.zero_sub]; exact i64_in h
theorem mul_bnd {a b : Int} (ha : -2147483648 ≤ a ∧ a ≤ 2147483648) (hb : -2147483648 ≤ b ∧ b ≤ 2147483648) : -4611686018427387904 ≤ a * b ∧ a * b ≤ 4611686018427387904 := by
  have h1 : a.natAbs * b.natAbs ≤ 2147483648 * 2147483648 := Nat.mul_le_mul (by omega) (by omega)
  have h2 : (a * b).natAbs = a.natAbs * b.natAbs := Int.natAbs_mul a b
  rw [← h2] at h1
  omega
theorem mul_in {a b : Int} (ha : -2147483648 ≤ a ∧ a ≤ 2147483648) (hb : -2147483648 ≤ b ∧ b ≤ 2147483648) : IntKind.i64.wrap (a * b) = a * b :=
  i64_in (by have := mul_bnd ha hb; omega)
theorem floor_neg {a b : Int} (hb : 0 < b) (h : a.tmod b < 0) : a.tdiv b - 1 = a / b := by
  have h1 := Int.tdiv_mul_add_tmod a b
  have h3 : -b < a.tmod b := by
    have := Int.lt_tmod_of_pos a hb
    omega
  have : a / b = a.tdiv b - 1 := by
    rw [Int.ediv_eq_iff_of_pos hb]
    have e : (a.tdiv b - 1) * b = a.tdiv b * b - b := by rw [Int.sub_mul]; omega
    rw [e]
    omega
  omega
theorem floor_pos {a b : Int} (hb : 0 < b) (h : ¬ a.tmod b < 0) : a.tdiv b = a / b := by
  have h1 := Int.tdiv_mul_add_tmod a b
  have h3 : a.tmod b < b := Int.tmod_lt_of_pos a hb
  have : a / b = a.tdiv b := by
    rw [Int.ediv_eq_iff_of_pos hb]
    omega
  omega
theorem ceil_iff {a b q : Int} (hb : 0 < b) (h1 : a ≤ q * b) (h2 : q * b < a + b) : ceilI a b = q := by
  unfold ceilI
  have : -a / b = -q := by
    rw [Int.ediv_eq_iff_of_pos hb, Int.neg_mul]
    omega
  omega
theorem shr_eq {a k : Int} (h0 : 0 ≤ k) (h1 : k ≤ 62) : a.fdiv (2 ^ min k.toNat IntKind.i64.bits) = a / 2 ^ k.toNat := by
  have : min k.toNat IntKind.i64.bits = k.toNat := by
    have hb : IntKind.i64.bits = 64 := rfl
    omega
  rw [this, Int.fdiv_eq_ediv_of_nonneg _ (by exact Int.le_of_lt (Int.pow_pos (by decide)))]
theorem pow_split {k : Nat} (h : k ≤ 62) : (2 : Int) ^ (63 - k) * 2 ^ k = 9223372036854775808 := by
  rw [← Int.pow_add, show 63 - k + k = 63 by omega]; rfl
theorem shl_eq {a k : Int} (ha : In64 a) (h0 : 0 ≤ k) (h1 : k ≤ 62) : IntKind.i64.wrap (a / 2 ^ k.toNat * 2 ^ min k.toNat IntKind.i64.bits) = a / 2 ^ k.toNat * 2 ^ k.toNat := by
  have hm : min k.toNat IntKind.i64.bits = k.toNat := by
    have hb : IntKind.i64.bits = 64 := rfl
    omega
  rw [hm]
  have hp : (0 : Int) < 2 ^ k.toNat := Int.pow_pos (by decide)
  have h2 := Int.ediv_mul_le a (Int.ne_of_gt hp)
  have h3 : -(2 ^ (63 - k.toNat)) ≤ a / 2 ^ k.toNat := by
    rw [Int.le_ediv_iff_mul_le hp, Int.neg_mul, pow_split (by omega)]
    exact ha.1
  have h4 : -(2 ^ (63 - k.toNat)) * 2 ^ k.toNat ≤ a / 2 ^ k.toNat * 2 ^ k.toNat := Int.mul_le_mul_of_nonneg_right h3 (Int.le_of_lt hp)
  rw [Int.neg_mul, pow_split (by omega)] at h4
  exact i64_in ⟨h4, by unfold In64 at ha; omega⟩
theorem ceil_of_mul {a b : Int} (hb : 0 < b) (h : a / b * b = a) : a / b = ceilI a b := (ceil_iff hb (by omega) (by omega)).symm
theorem ceil_of_ne {a b : Int} (hb : 0 < b) (h : ¬ a / b * b = a) : a / b + 1 = ceilI a b := by
  have h1 := Int.ediv_mul_le a (Int.ne_of_gt hb)
  have h2 := Int.lt_ediv_add_one_mul_self a hb
  refine (ceil_iff hb ?_ ?_).symm <;> rw [Int.add_mul] at * <;> omega
theorem mul_le_neg {a b : Int} (ha : a ≤ 0) (hb : 1 ≤ b) : a * b ≤ a := by
  have := Int.mul_le_mul_of_nonneg_left (c := -a) hb (by omega)
  rw [Int.neg_mul, Int.neg_mul] at this
  omega
theorem div_nonpos {a b : Int} (ha : a ≤ 0) (hb : 0 < b) : a / b ≤ 0 := by
  rcases Int.lt_or_le 0 (a / b) with h | h
  · have h1 := Int.ediv_mul_le a (Int.ne_of_gt hb)
    have h2 : 1 * b ≤ a / b * b := Int.mul_le_mul_of_nonneg_right (by omega) (Int.le_of_lt hb)
    omega
  · exact h
theorem shiftUp_bnd {a k : Int} (ha : In64 a) (h : ¬ a / 2 ^ k.toNat * 2 ^ k.toNat = a) : -9223372036854775808 ≤ a / 2 ^ k.toNat + 1 ∧ a / 2 ^ k.toNat + 1 ≤ 9223372036854775807 := by
  have hp : (0 : Int) < 2 ^ k.toNat := Int.pow_pos (by decide)
  unfold In64 at ha
  rcases Int.le_total 0 a with h' | h'
  · have h1 := Int.ediv_le_self (2 ^ k.toNat) h'
    have h2 : 0 ≤ a / 2 ^ k.toNat := Int.ediv_nonneg h' (Int.le_of_lt hp)
    refine ⟨by omega, ?_⟩
    rcases Int.lt_or_le (a / 2 ^ k.toNat) a with h3 | h3
    · omega
    · have e : a / 2 ^ k.toNat = a := by omega
      have h4 := Int.ediv_mul_le a (Int.ne_of_gt hp)
      rw [e] at h4 h
      have h5 : a * 1 ≤ a * 2 ^ k.toNat := Int.mul_le_mul_of_nonneg_left (by omega) h'
      omega
  · have h1 : a / 2 ^ k.toNat ≤ 0 := div_nonpos h' hp
    have h2 : a ≤ a / 2 ^ k.toNat := by
      rw [Int.le_ediv_iff_mul_le hp]
      exact mul_le_neg h' (by omega)
    omega
theorem clampI_id {a : Int} (h : -2147483648 ≤ a ∧ a ≤ 2147483648) : clampI a = a := by unfold clampI; omega
theorem and_mask {a : Int} : IntKind.i64.wrap ((BitVec.ofInt IntKind.i64.bits a &&& BitVec.ofInt IntKind.i64.bits 65535).toNat) = a % 65536 := by
  have hb : IntKind.i64.bits = 64 := rfl
  have h1 : (BitVec.ofInt IntKind.i64.bits a &&& BitVec.ofInt IntKind.i64.bits 65535).toNat = (a % 65536).toNat := by
    rw [hb, BitVec.toNat_and]
    have e1 : (BitVec.ofInt 64 65535).toNat = 2 ^ 16 - 1 := by decide
    rw [e1, Nat.and_two_pow_sub_one_eq_mod, BitVec.toNat_ofInt]
    omega
  rw [h1]
  refine (i64_in ?_).trans ?_ <;> omega
section
variable {P : Program} {n : Nat} {w0 : Base} {ops : Array Oper} {Q : Exit → Act → World → Prop} {S : Slots} {H : Heap}
theorem doL_vg {α : Type} {F : α → Value} {x : α} {o : Oper} {rest : List Oper} {d : Nat} (ho : OpV P w0 S H o (F x)) (hw : wantedS ops S o = some true) (hd : o.dst = some d) (hn : Nat.blt d n = true)
    (next : ∀ r, r = x → DoL P n w0 ops Q rest ((d, F r) :: S) H) : DoL P n w0 ops Q (o :: rest) S H := doL_v ho hw hd hn (next x rfl)
theorem doG_vg {α : Type} {F : α → Value} {x : α} {o : Oper} {rest : List Oper} {d : Nat} {K : Slots → Ghosts → Prop} {G : Ghosts} (ho : OpV P w0 S H o (F x)) (hw : wantedS ops S o = some true) (hd : o.dst = some d) (hn : Nat.blt d n = true)
    (next : ∀ r, r = x → DoG P n w0 ops H K rest ((d, F r) :: S) G) : DoG P n w0 ops H K (o :: rest) S G := doG_v ho hw hd hn (next x rfl)
theorem fits_lit {a : Act} {d : Nat} {b c : Bool} (f : Fits n S a) (hb : look S d = some (.bool b)) (e : b = c) : Fits n ((d, .bool c) :: S) a := by
  subst e; exact fits_more f (f.has _ _ hb)
theorem doL_split {l : List Oper} (d : Nat) {b : Bool} (hb : look S d = some (.bool b)) (ht : b = true → DoL P n w0 ops Q l ((d, .bool true) :: S) H) (hf : b = false → DoL P n w0 ops Q l ((d, .bool false) :: S) H) :
    DoL P n w0 ops Q l S H := fun a w f k => by
  cases hbb : b with
  | true => exact ht hbb a w (fits_lit f hb hbb) k
  | false => exact hf hbb a w (fits_lit f hb hbb) k
end
end Go.Sx
namespace Go.Sx
open Go.RowKit Go.ChangeShapes Go.WideShapes
section
variable {P : Program} {W : World} {r : Reach} {base : Nat}
theorem open_i64 {t : TypeId} {v : Value} (hu : P.underlying t = some (.int .i64)) (h : Value.okWide P W r base t v) : ∃ n, v = .int .i64 n ∧ In64 n := by
  simp only [Value.okWide, hu, Cell.okWide] at h
  cases v <;> simp [Cell.ok, hu] at h
  obtain ⟨rfl, h1⟩ := h
  exact ⟨_, rfl, by simpa [IntKind.has, IntKind.min, IntKind.max, IntKind.signed, IntKind.bits, In64] using h1⟩
variable {H : Type} {enc : TypeId × Value → H}
def readB (P : Program) (ts : List TypeId) : Bool := ts.all fun t => P.readableRec t && decide (t < P.types.size)
theorem trodAll_below (hl : laidOutB P = true) {W' : World} (hb : Below W.heap.size W W') : ∀ {ts : List TypeId} {vs : List Value} {ds : List (DataW H)} {ps : List MemPlace}, readB P ts = true →
    DataW.TrodAll enc P W 0 (fun _ => true) true ts vs ds ps → (∀ x ∈ ps, x.block < W.heap.size) → DataW.TrodAll enc P W' 0 (fun b => decide (b < W.heap.size)) true ts vs ds ps
  | [], vs, ds, ps, _, h, _ => by
    obtain ⟨rfl, rfl, rfl⟩ := trodAll_nil h
    exact trodAll_mk0
  | t :: ts, vs, ds, ps, hr, h, hlt => by
    obtain ⟨v, vs', d, ds', p, q, rfl, rfl, rfl, h1, h2⟩ := trodAll_cons h
    simp only [readB, List.all_cons, Bool.and_eq_true, decide_eq_true_eq] at hr
    exact trodAll_cons_mk (Below.trod hl hr.1.1 hr.1.2 h1 hb fun x hx => hlt x (List.mem_append_left _ hx))
      (trodAll_below hl hb hr.2 h2 fun x hx => hlt x (List.mem_append_right _ hx))
theorem law_post {f : Func} {s : ChangeSpec} {apart fresh handsOn : Bool} {W' : World} {args : Array Value} {ds : List (DataW H)} {before : List MemPlace} {tb : TypeId}
    (hW : DataW.Whole enc P f.params.toList s.vars apart W args.toList ds [] before) (hvs : s.vars = []) (hl : laidOutB P = true) (hr : readB P f.params.toList = true) (hargs : (s.fn H (ds ++ [])).args = ds)
    (hres : (s.fn H (ds ++ [])).results = [.lit (.bool true)]) (hv : (s.fn H (ds ++ [])).vars = []) (hrt : f.resultTypes = #[tb]) (hub : P.underlying tb = some .bool) (hb : Below W.heap.size W W') :
    s.post enc P f apart fresh handsOn false W args (.bool true) W' := by
  have hlt : ∀ p ∈ before, p.block < W.heap.size := fun p hp => hW.lt p hp
  have hW2 := hW
  obtain ⟨p, q, hA, hV, rfl, _, _⟩ := hW2
  rw [hvs] at hV
  obtain ⟨_, rfl⟩ := trodVars_none hV
  refine ⟨ds, [], p ++ [], [], p, [], hW, ?_, ?_, ?_, World.keptBut_mono (fun x hx => ⟨hx, Or.inr (Or.inl (by simpa using hx))⟩) (hb.frame (· ∈ p ++ [])), fun h => by cases h⟩
  · rw [hres, hrt]
    exact trodAll_mk1 (shut_bool hub true)
  · rw [hargs]
    exact trodAll_below hl hb hr hA fun x hx => hlt x (by simpa using hx)
  · rw [hv, hvs]
    exact rfl
end
end Go.Sx
namespace Go.Sx
open Go.RowKit
structure GrowB (b : Nat → Prop) (w w' : World) : Prop where
  os : w'.os = w.os
  tape : w'.tape = w.tape
  output : w'.output = w.output
  size : w.heap.size ≤ w'.heap.size
  block : ∀ k, k < w.heap.size → ¬ b k → w'.heap[k]? = w.heap[k]?
theorem GrowB.of {b : Nat → Prop} {w w' : World} (g : Grow w w') : GrowB b w w' := ⟨g.os, g.tape, g.output, g.size, fun k hk _ => g.block k hk⟩
theorem GrowB.refl (b : Nat → Prop) (w : World) : GrowB b w w := .of (Grow.refl w)
theorem GrowB.trans {b : Nat → Prop} {x y z : World} (h : GrowB b x y) (k : GrowB b y z) : GrowB b x z :=
  ⟨k.os.trans h.os, k.tape.trans h.tape, k.output.trans h.output, Nat.le_trans h.size k.size, fun i hi hb => (k.block i (Nat.lt_of_lt_of_le hi h.size) hb).trans (h.block i hi hb)⟩
theorem GrowB.set (b : Nat) (w : World) (cs : Array Value) : GrowB (· = b) w (w.setRow b cs) := ⟨rfl, rfl, rfl, by simp, fun k _ hb => setRow_other w b k cs hb⟩
def StableB (b : Nat → Prop) (T : Pred) : Prop := ∀ v w w', T v w → GrowB b w w' → T v w'
section
variable {P : Program} {n : Nat} {ops : Array Oper} {Q : Exit → Act → World → Prop} {σ : Type}
def YieldsE (P : Program) (b : Nat → Prop) (w : World) (T : Pred) (K : World → Prop) : Result Next → Prop
  | .ok (.value v) w' => GrowB b w w' ∧ T v w' ∧ K w'
  | .ok (.enter f args) w' => GrowB b w w' ∧ Calls P f args w' (fun e w'' => ∃ v, e = .returned v ∧ GrowB b w' w'' ∧ T v w'' ∧ K w'')
  | _ => False
def OpE (P : Program) (n : Nat) (ops : Array Oper) (K1 K2 : World → Prop) (b : Nat → Prop) (S : Slots) (G : Ghosts) (o : Oper) (T : Pred) : Prop :=
  ∀ a w, a.tmps.size = n → (∀ t ∈ o.looksAt ops, KnowAt S G a w t) → K1 w →
    Region.wanted o (yielded ops a.tmps) = true ∧ YieldsE P b w T K2 ((execOp a.eval o).run P w)
structure Fam (b : Nat → Prop) (w1 : Base) (H0 : Heap) (Wf : σ → Base) (Hf : σ → Heap) : Prop where
  size : ∀ s, (Wf s).w.heap.size = w1.w.heap.size
  told : ∀ s, (Wf s).R = w1.R
  adr : ∀ s, (Hf s).map (·.2.1) = H0.map (·.2.1)
  here : ∀ k, b k → k < w1.w.heap.size ∨ k ∈ H0.map (·.2.1)
def PureAt (P : Program) (n : Nat) (ops : Array Oper) (Wf : σ → Base) (Hf : σ → Heap) (S : Slots) (G : Ghosts) (o : Oper) (T : Pred) : Prop := ∀ s', OpA P n (Wf s') ops (Hf s') S G o T
structure CertOkM (P : Program) (n : Nat) (ops : Array Oper) (b : Nat → Prop) (Wf : σ → Base) (Hf : σ → Heap) (H0 : Heap) (es : List Nat) (i : Nat) (s s2 : σ) (o : Oper) (c : Cert) : Prop where
  dst : o.dst = some c.d
  lt : c.d < n
  nosel : noSel o = true
  stable : StableB b c.T
  op : (es.contains i = false ∧ s2 = s ∧ PureAt P n ops Wf Hf c.S c.G o c.T) ∨ (es.contains i = true ∧ OpE P n ops (Knows (Wf s) (Hf s)) (Knows (Wf s2) (Hf s2)) b c.S c.G o c.T)
  al : c.al = true → (es.contains i = false ∧ ∀ s', Allocs P n (Wf s') ops (Hf s') c.S c.G o) ∧ PtrIn H0 c.T
variable {b : Nat → Prop} {Wf : σ → Base} {Hf : σ → Heap} {H0 : Heap} {es : List Nat} {w1 : Base}
structure InvM (S0 : Slots) (Wf : σ → Base) (Hf : σ → Heap) (es : List Nat) (ss : Nat → σ) (N n : Nat) (cs : List Cert) (listed : Array Bool) (a : Act) (w : World) : Prop where
  size : a.tmps.size = n
  defers : a.defers = []
  old : ∀ t v, look S0 t = some v → (∀ i c, cs[i]? = some c → c.d = t → listed.getD i false = false) → a.tmps[t]? = some v
  done : ∀ i c, cs[i]? = some c → listed.getD i false = true → ∃ u, a.tmps[c.d]? = some u ∧ c.T u w
  apart : ∀ i j c c', cs[i]? = some c → cs[j]? = some c' → i ≠ j → c.al = true → c'.al = true → listed.getD i false = true → listed.getD j false = true → a.tmps[c.d]? ≠ a.tmps[c'.d]?
  knows : ∃ m, m ≤ N ∧ Knows (Wf (ss m)) (Hf (ss m)) w ∧ ∀ i, i < N → es.contains i = true → (listed.getD i false = true ↔ i < m)
variable {S0 : Slots}
variable {S : Slots} {G : Ghosts} {K : σ → Slots → Ghosts → Prop} {o : Oper} {l : List Oper} {d i : Nat} {s : σ}
end
end Go.Sx
namespace Go.Sx
section
variable {P : Program} {n : Nat} {w0 : Base} {ops : Array Oper} {Q : Exit → Act → World → Prop} {S : Slots} {H : Heap}
variable {d : Option Tmp} {ty : TypeId} {pos : String} {af : Array Edge} {g : Option (Nat × Bool)}
theorem opV_index {t : Nat} {x y : Operand} {a i v : Value} (hx : ev S x = some a) (hy : ev S y = some i) (h : ∀ w : World, (Instr.index t a i).run P w = .ok v w) : OpV P w0 S H ⟨d, .index t x y, ty, pos, af, g⟩ v :=
  opV_of (by simp [knownB, Op.operands, hx, hy]) rfl fun w _ => by simp [execOp, evD_of hx, evD_of hy, h w]
end
end Go.Sx
namespace Go.Sx
open Go.RowKit
def rowPl (len size : Nat) : List (Nat × Nat) := (List.range len).map fun i => (i * size, size)
def rowZ (zs : List Value) : Nat → List Value
  | 0 => []
  | k + 1 => zs ++ rowZ zs k
theorem rowZ_get {zs : List Value} (hz : 0 < zs.length) : ∀ (len i : Nat), i < len * zs.length → (rowZ zs len)[i]? = zs[i % zs.length]?
  | 0, i, h => by omega
  | k + 1, i, h => by
    simp only [rowZ, List.getElem?_append]
    split
    · rename_i hlt
      rw [Nat.mod_eq_of_lt hlt]
    · rename_i hge
      rw [Nat.add_mul] at h
      rw [rowZ_get hz k (i - zs.length) (by omega)]
      congr 1
      exact (Nat.mod_eq_sub_mod (by omega)).symm
theorem rowZ_length (zs : List Value) : ∀ len, (rowZ zs len).length = len * zs.length
  | 0 => by simp [rowZ]
  | k + 1 => by simp [rowZ, rowZ_length zs k, Nat.add_mul]; omega
section
variable {P : Program} {n : Nat} {w0 : Base} {ops : Array Oper} {Q : Exit → Act → World → Prop} {S : Slots} {H : Heap}
theorem zero_row (z : Value) (len : Nat) (hz : 0 < z.cells.size) : (Array.range (len * z.cells.size)).map (z.cells[· % z.cells.size]!) = (rowZ z.cells.toList len).toArray := by
  apply Array.ext
  · simp [rowZ_length]
  · intro i h1 h2
    have hlt : i < len * z.cells.toList.length := by simpa using h1
    have hg := rowZ_get (zs := z.cells.toList) (by simpa using hz) len i hlt
    have hm : i % z.cells.size < z.cells.size := Nat.mod_lt _ hz
    simp only [Array.getElem_map, Array.getElem_range, List.getElem_toArray]
    have hlt' : i < (rowZ z.cells.toList len).length := by rw [rowZ_length]; exact hlt
    rw [List.getElem?_eq_getElem hlt'] at hg
    have e1 : z.cells.toList[i % z.cells.toList.length]? = some z.cells[i % z.cells.size] := by
      simp [hm]
    rw [e1] at hg
    rw [Option.some.inj hg]
    simp [hm]
theorem run_bslice {t e size len : Nat} {z : Value} {parts : List (Nat × Value)} {cs : List Value} (hs : slcB P t e size = true) (hz : zeroIs P e z) (hzs : Nat.beq z.cells.size size = true) (h0 : Nat.blt 0 size = true) (hl : Nat.ble (len * size) 16777216 = true)
    (h1 : Nat.blt 0 len = true) (hf : fillV (rowPl len size) (rowZ z.cells.toList len) parts = some cs) (w : World) :
    (Instr.buildSlice t len parts.toArray).run P w = .ok (.slice (some ⟨w.heap.size, 0, none⟩) len len) (w.alloc (.cells cs.toArray e)) := by
  have hzs' := Nat.eq_of_beq_eq_true hzs
  subst hzs'
  have h0' : 0 < z.cells.size := by simpa using h0
  have h1' : 0 < len := by simpa using h1
  have hl' : len * z.cells.size ≤ 16777216 := Nat.le_of_ble_eq_true hl
  have hne : ¬ len * z.cells.size = 0 := by
    intro e
    rcases Nat.mul_eq_zero.1 e with h | h <;> omega
  unfold slcB at hs
  cases hu : P.underlying t with
  | none => simp [hu] at hs
  | some ds =>
    cases ds <;> simp [hu] at hs
    rename_i e'
    obtain ⟨rfl, h2⟩ := hs
    cases hi : P.info? e' with
    | none => simp [hi] at h2
    | some inf =>
      simp [hi] at h2
      have hfill := fill_of (place := fun i => some (i * z.cells.size, z.cells.size)) (pl := rowPl len z.cells.size) (fun i x hx => by
        simp only [rowPl, List.getElem?_map, Option.map_eq_some_iff] at hx
        obtain ⟨j, hj, rfl⟩ := hx
        have := (List.getElem?_eq_some_iff.1 hj)
        simp at this
        simp [this.2]) parts (rowZ z.cells.toList len) cs hf
      rw [← zero_row z len h0'] at hfill
      have hsz : (sizeOf e').run P w = .ok z.cells.size w := by simp [sizeOf, typeInfo, hi, h2]
      simp only [Instr.buildSlice, Sem.run_bind, run_underlying hu, Result.andThen_ok, hsz, Sem.run_ite]
      rw [if_neg (by omega)]
      simp only [Sem.run_pure, Result.andThen_ok, if_neg hne, run_zero hz, Sem.run_bind]
      simp [hfill, newRow, hne, run_zero hz]
def RowT (w0 : Base) (H : Heap) (cs : List Value) (e : TypeId) (len : Nat) : Pred := fun u w =>
  ∃ b, u = .slice (some ⟨b, 0, none⟩) len len ∧ w0.w.heap.size ≤ b ∧ ((∀ x ∈ H, x.2.1 ≠ b) ∧ ∀ x ∈ w0.R, ¬ x.2.1 b) ∧ w.heap[b]? = some (.cells cs.toArray e)
theorem stable_rowT {cs : List Value} {e : TypeId} {len : Nat} : Stable (RowT w0 H cs e len) := fun _ _ _ ⟨b, h1, h2, h3, h4⟩ g => ⟨b, h1, h2, h3, by rw [g.block b (heap_lt h4)]; exact h4⟩
variable {d : Nat} {ty : TypeId} {pos : String} {af : Array Edge} {g : Option (Nat × Bool)}
theorem opT_bslice {t e size len : Nat} {z : Value} {parts : List (Nat × Operand)} {vs : List (Nat × Value)} {cs : List Value} (hs : slcB P t e size = true) (hz : zeroIs P e z) (hzs : Nat.beq z.cells.size size = true) (h0 : Nat.blt 0 size = true)
    (hl : Nat.ble (len * size) 16777216 = true) (h1 : Nat.blt 0 len = true) (hp : evp S parts = some vs) (hf : fillV (rowPl len size) (rowZ z.cells.toList len) vs = some cs) :
    OpT P w0 S H ⟨some d, .buildSlice t len parts.toArray, ty, pos, af, g⟩ (RowT w0 H cs e len) := by
  obtain ⟨e1, hk⟩ := evp_spec hp
  refine ⟨?_, rfl, fun w k => ?_⟩
  · simp only [knownB, Op.operands]
    rw [Array.all_eq_true_iff_forall_mem]
    intro x hx
    simp at hx
    obtain ⟨i, hi⟩ := hx
    exact hk _ hi
  · have := run_bslice (P := P) hs hz hzs h0 hl h1 hf w
    have h2 : (parts.toArray.map fun (x : Nat × Operand) => (x.1, evD S x.2)) = vs.toArray := by rw [← e1]; simp
    simp only [execOp]
    rw [h2]
    simp only [Sem.run_bind, this, Result.andThen_ok, Sem.run_pure, Yields]
    refine ⟨(Grow.refl w).alloc _, w.heap.size, rfl, k.grow.size, ⟨fun x hx e => ?_, fun x hx hd => ?_⟩, ?_⟩
    · have := heap_lt (k.has x hx).2
      omega
    · have := ((k.facts x hx).at' _ hd).2.1
      omega
    · show (w.heap.push _)[w.heap.size]? = _
      simp
theorem doG_bslice {t e size len : Nat} {z : Value} {parts : List (Nat × Operand)} {vs : List (Nat × Value)} {cs : List Value} {K : Slots → Ghosts → Prop} {G : Ghosts} {l : List Oper} (hs : slcB P t e size = true) (hz : zeroIs P e z) (hzs : Nat.beq z.cells.size size = true) (h0 : Nat.blt 0 size = true)
    (hl : Nat.ble (len * size) 16777216 = true) (h1 : Nat.blt 0 len = true) (hp : evp S parts = some vs) (hf : fillV (rowPl len size) (rowZ z.cells.toList len) vs = some cs)
    (hw : wantedS ops S ⟨some d, .buildSlice t len parts.toArray, ty, pos, af, g⟩ = some true) (hn : Nat.blt d n = true) (hno : look S d = none)
    (next : DoG P n w0 ops H K l S ((d, false, RowT w0 H cs e len) :: G)) : DoG P n w0 ops H K (⟨some d, .buildSlice t len parts.toArray, ty, pos, af, g⟩ :: l) S G :=
  doG_t (opT_bslice hs hz hzs h0 hl h1 hp hf) stable_rowT hw rfl hn hno next
theorem call_yields {w : World} {f : FuncId} {dd : Option Tmp} {xs : List Operand} {ats : Array TypeId} {vs : List Value} {T : Pred} (he : Enters P f) (ha : evs S xs = some vs)
    (hc : Calls P f vs.toArray w (RetsT T w)) : Yields P w T ((execOp (evD S) ⟨dd, .call ⟨.value (.func f), xs.toArray, ats⟩, ty, pos, af, g⟩).run P w) := by
  obtain ⟨e, _⟩ := evs_spec ha
  have hrun : (execOp (evD S) ⟨dd, .call ⟨.value (.func f), xs.toArray, ats⟩, ty, pos, af, g⟩).run P w = .ok (.enter f vs.toArray) w := by
    have h2 : evD S (.func f) = .func (.func f) #[] #[] := rfl
    have h3 := he vs.toArray w
    simp [execOp, resolve, h2, Deferred.ofValue, invoke, e, h3]
  rw [hrun]
  exact ⟨Grow.refl _, hc.mono fun _ _ h => h⟩
theorem known_call {f : FuncId} {dd : Option Tmp} {xs : List Operand} {ats : Array TypeId} (hk : ∀ x ∈ xs, (ev S x).isSome = true) : knownB S ⟨dd, .call ⟨.value (.func f), xs.toArray, ats⟩, ty, pos, af, g⟩ = true := by
  simp only [knownB, Op.operands, Call.operands]
  rw [Array.all_eq_true_iff_forall_mem]
  intro x hx
  simp at hx
  rcases hx with rfl | hx
  · rfl
  · exact hk x hx
theorem doG_callG {F : Int → Value} {x : Int} {f : FuncId} {xs : List Operand} {ats : Array TypeId} {T1 : Pred} {vsOf : Value → List Value} {K : Slots → Ghosts → Prop} {G : Ghosts} {l : List Oper} (t : Nat) (he : Enters P f) (hG : lookG G t = some T1)
    (ha : ∀ u, evs ((t, u) :: S) xs = some (vsOf u))
    (hc : ∀ u w, Knows w0 H w → T1 u w → Calls P f (vsOf u).toArray w (Rets (F x) w)) (hw : ∀ u, wantedS ops ((t, u) :: S) ⟨some d, .call ⟨.value (.func f), xs.toArray, ats⟩, ty, pos, af, g⟩ = some true)
    (hm : t ∈ Oper.looksAt ops ⟨some d, .call ⟨.value (.func f), xs.toArray, ats⟩, ty, pos, af, g⟩) (hn : Nat.blt d n = true) (next : ∀ r, r = x → DoG P n w0 ops H K l ((d, F r) :: S) G) :
    DoG P n w0 ops H K (⟨some d, .call ⟨.value (.func f), xs.toArray, ats⟩, ty, pos, af, g⟩ :: l) S G :=
  doG_g1 t hG rfl (fun u => known_call (evs_spec (ha u)).2) (fun u w k hT => call_yields he (ha u) ((hc u w k hT).mono fun _ _ h => ⟨F x, h.1, h.2, rfl⟩)) hw hm rfl hn (next x rfl)
end
end Go.Sx
namespace Go.Sx
open Go.RowKit
structure IntsAt (w : World) (m : Nat) (sl : Value) (L : List Int) : Prop where
  len : L.length ≤ 9223372036854775807
  slice : ∃ a cap, sl = .slice a L.length cap ∧ ∀ j, j < L.length → ∃ b off, a = some ⟨b, off, none⟩ ∧ b < m ∧ w.cell? ⟨b, off + j, none⟩ = some (.int .i64 (L.getD j 0))
def srcC (sl : Value) (L : List Int) (i : Nat) : List Value := [sl, .int .i64 ((min i L.length : Nat) : Int)]
def srcW (w : World) (b : Nat) (sl : Value) (L : List Int) (i : Nat) : World := w.setRow b (srcC sl L i).toArray
structure Src (w : World) (b : Nat) (sl : Value) (L : List Int) (i : Nat) : Prop where
  blk : ∃ ty, w.heap[b]? = some (.cells (srcC sl L i).toArray ty)
  ints : IntsAt w b sl L
theorem Src.lt {w : World} {b : Nat} {sl : Value} {L : List Int} {i : Nat} (h : Src w b sl L i) : b < w.heap.size := by
  obtain ⟨ty, h⟩ := h.blk
  exact heap_lt h
theorem IntsAt.mono {w w' : World} {m m' : Nat} {sl : Value} {L : List Int} (h : IntsAt w m sl L) (hm : m ≤ m') (hw : ∀ k, k < m → w'.heap[k]? = w.heap[k]?) : IntsAt w' m' sl L := by
  obtain ⟨h1, a, cap, h2, h3⟩ := h
  refine ⟨h1, a, cap, h2, fun j hj => ?_⟩
  obtain ⟨b, off, e, hb, hc⟩ := h3 j hj
  refine ⟨b, off, e, by omega, ?_⟩
  rw [← hc]
  exact World.cell?_of_block (w := w) (hw b hb)
theorem Src.w {w : World} {b : Nat} {sl : Value} {L : List Int} {i : Nat} (h : Src w b sl L i) (j : Nat) : Src (srcW w b sl L j) b sl L j := by
  obtain ⟨⟨ty, hb⟩, hi⟩ := h
  exact ⟨⟨ty, setRow_heap w b _ _ ty _ hb⟩, hi.mono (Nat.le_refl _) fun k hk => setRow_other w b k _ (by omega)⟩
theorem Src.grow {w w' : World} {b : Nat} {sl : Value} {L : List Int} {i : Nat} (h : Src w b sl L i) (g : Grow w w') : Src w' b sl L i := by
  have hlt := h.lt
  obtain ⟨⟨ty, hb⟩, hi⟩ := h
  exact ⟨⟨ty, by rw [g.block b hlt]; exact hb⟩, hi.mono (Nat.le_refl _) fun k hk => g.block k (by omega)⟩
def Base.setRow (B : Base) (b : Nat) (cs : Array Value) : Base := ⟨B.w.setRow b cs, B.R⟩
section
variable {P : Program} {n : Nat} {w0 : Base} {ops : Array Oper} {Q : Exit → Act → World → Prop} {S : Slots} {H : Heap}
variable {d : Nat} {ty : TypeId} {pos : String} {af : Array Edge} {g : Option (Nat × Bool)}
theorem opV_nilCheck {dd : Option Tmp} {x : Operand} {a : Addr} (hx : ev S x = some (.pointer (some a))) : OpV P w0 S H ⟨dd, .nilCheck x, ty, pos, af, g⟩ (.pointer (some a)) :=
  opV_of (by simp [knownB, Op.operands, hx]) rfl fun w _ => by simp [execOp, evD_of hx]
theorem run_eqB {t : TypeId} {p q : Bool} (hb : P.underlying t = some .bool) (w : World) : (Op.equal t (.bool p) (.bool q)).run P w = .ok (p == q) w := by
  unfold Op.equal
  rw [show Op.maxDepth = 9999 + 1 from rfl, Op.equalIn]
  simp [run_underlying hb]
theorem opV_eqlB {dd : Option Tmp} {x y : Operand} {t t' : TypeId} {p q : Bool} (hb : P.underlying t = some .bool) (hx : ev S x = some (.bool p)) (hy : ev S y = some (.bool q)) : OpV P w0 S H ⟨dd, .binOp .eql t x y t', ty, pos, af, g⟩ (.bool (p == q)) :=
  opV_of (by simp [knownB, Op.operands, hx, hy]) rfl fun w _ => by simp [execOp, evD_of hx, evD_of hy, eqGuard, binOp, run_eqB hb]
variable {α : Type} {F : α → Value} {x : α} {f : FuncId} {xs : List Operand} {ats : Array TypeId} {vs : List Value} {rest : List Oper}
variable {B : Base} {b i0 i j : Nat} {sl : Value} {L : List Int}
theorem call_run {dd : Option Tmp} {w : World} (he : Enters P f) (ha : evs S xs = some vs) : (execOp (evD S) ⟨dd, .call ⟨.value (.func f), xs.toArray, ats⟩, ty, pos, af, g⟩).run P w = .ok (.enter f vs.toArray) w := by
  obtain ⟨e, _⟩ := evs_spec ha
  have h2 : evD S (.func f) = .func (.func f) #[] #[] := rfl
  have h3 := he vs.toArray w
  simp [execOp, resolve, h2, Deferred.ofValue, invoke, e, h3]
theorem known_evs {dd : Option Tmp} (ha : evs S xs = some vs) : knownB S ⟨dd, .call ⟨.value (.func f), xs.toArray, ats⟩, ty, pos, af, g⟩ = true := known_call (evs_spec ha).2
end
end Go.Sx
namespace Go.Sx
open Go.RowKit
section
variable {P : Program} {n : Nat} {w0 : Base} {ops : Array Oper} {Q : Exit → Act → World → Prop} {S : Slots} {H : Heap}
variable {d : Nat} {ty : TypeId} {pos : String} {af : Array Edge} {g : Option (Nat × Bool)}
theorem opV_makeFunc {dd : Option Tmp} {fn : Fn} {xs ys : List Operand} {vs us : List Value} (h1 : evs S xs = some vs) (h2 : evs S ys = some us) :
    OpV P w0 S H ⟨dd, .makeFunc fn xs.toArray ys.toArray, ty, pos, af, g⟩ (.func fn vs.toArray us.toArray) := by
  obtain ⟨e1, k1⟩ := evs_spec h1
  obtain ⟨e2, k2⟩ := evs_spec h2
  refine opV_of ?_ rfl fun w _ => ?_
  · simp only [knownB, Op.operands]
    rw [Array.all_eq_true_iff_forall_mem]
    intro x hx
    simp at hx
    rcases hx with hx | hx
    · exact k1 x hx
    · exact k2 x hx
  · simp [execOp, Instr.makeFunc, e1, e2]
theorem opV_loadA_blk {dd : Option Tmp} {t t0 : TypeId} {x : Operand} {b off sz : Nat} {cs vs : List Value} (hb : w0.w.heap[b]? = some (.cells cs.toArray t0)) (hT : tyB P t true sz = true) (hx : ev S x = some (.pointer (some ⟨b, off, none⟩)))
    (hv : sliceV cs off sz = some vs) : OpV P w0 S H ⟨dd, .load t x, ty, pos, af, g⟩ (.agg vs.toArray) := by
  obtain ⟨e, hl⟩ := sliceV_spec hv
  have hl2 : vs.length = sz := by rw [e]; simp; omega
  refine opV_loadA_old hT hx (heap_lt hb) (by rw [hl2]; exact Nat.beq_refl _) fun i hi => ?_
  rw [cell_at hb, e, List.getElem?_take, if_pos hi, List.getElem?_drop]
def NewF (w : World) (mk : Nat → Value) (cs : List Value) (t : TypeId) : Pred := fun u w' => ∃ b, u = mk b ∧ w.heap.size ≤ b ∧ w'.heap[b]? = some (.cells cs.toArray t)
def HasF (mk : Nat → Value) (cs : List Value) (t : TypeId) : Pred := fun u w' => ∃ b, u = mk b ∧ w'.heap[b]? = some (.cells cs.toArray t)
theorem stable_hasF {mk : Nat → Value} {cs : List Value} {t : TypeId} : Stable (HasF mk cs t) := fun _ _ _ ⟨b, h1, h2⟩ gr => ⟨b, h1, by rw [gr.block b (heap_lt h2)]; exact h2⟩
variable {f : FuncId} {xs : List Operand} {ats : Array TypeId} {vs : List Value} {rest : List Oper}
theorem doL_callNewF {mk : Nat → Value} {cs : List Value} {t0 : TypeId} (id : Nat) (he : Enters P f) (ha : evs S xs = some vs) (hc : ∀ w', Knows w0 H w' → Calls P f vs.toArray w' (RetsT (NewF w' mk cs t0) w'))
    (hw : wantedS ops S ⟨some d, .call ⟨.value (.func f), xs.toArray, ats⟩, ty, pos, af, g⟩ = some true) (hn : Nat.blt d n = true)
    (next : ∀ b, DoL P n w0 ops Q rest ((d, mk b) :: S) ((id, b, cs, t0) :: H)) : DoL P n w0 ops Q (⟨some d, .call ⟨.value (.func f), xs.toArray, ats⟩, ty, pos, af, g⟩ :: rest) S H := by
  intro a w' fi k
  unfold wpList
  rw [wanted_fits fi hw, if_pos rfl]
  refine .inl ?_
  unfold Oper.wp
  rw [exec_fits fi (known_evs ha) rfl, call_run he ha]
  simp only [Oper.upon]
  refine (hc w' k).mono fun e w'' ⟨v, he, hg, bb, hv, hlt, hblk⟩ => ?_
  subst he; subst hv
  have k2 := k.next hg
  refine next bb _ _ (fi.put hn _) ⟨k2.grow, fun y hy => ?_, ?_, fun F hF => (k2.facts F hF).heap fun y hy => ?_, k.apart⟩
  · rcases List.mem_cons.1 hy with rfl | hy
    · exact ⟨Nat.le_trans k.grow.size hlt, hblk⟩
    · exact k2.has y hy
  · rw [List.map_cons, List.nodup_cons]
    refine ⟨fun hm => ?_, k.nodup⟩
    obtain ⟨y, hy, hye⟩ := List.mem_map.1 hm
    have := heap_lt (k.has y hy).2
    simp only at hye
    omega
  · rcases List.mem_cons.1 hy with rfl | hy
    · exact .inr fun hd => by have := ((k.facts F hF).at' _ hd).2.1; simp only at this; omega
    · exact .inl ⟨y, hy, rfl⟩
variable {K : Slots → Ghosts → Prop} {G : Ghosts}
theorem doG_callNewF {mk : Nat → Value} {cs : List Value} {t0 : TypeId} (he : Enters P f) (ha : evs S xs = some vs) (hc : ∀ w', Knows w0 H w' → Calls P f vs.toArray w' (RetsT (NewF w' mk cs t0) w'))
    (hw : wantedS ops S ⟨some d, .call ⟨.value (.func f), xs.toArray, ats⟩, ty, pos, af, g⟩ = some true) (hn : Nat.blt d n = true) (hno : look S d = none)
    (next : DoG P n w0 ops H K rest S ((d, false, HasF mk cs t0) :: G)) : DoG P n w0 ops H K (⟨some d, .call ⟨.value (.func f), xs.toArray, ats⟩, ty, pos, af, g⟩ :: rest) S G :=
  doG_t (opT_call he ha fun w' k => (hc w' k).mono fun e w'' ⟨v, h1, h2, b, h3, _, h4⟩ => ⟨v, h1, h2, b, h3, h4⟩) stable_hasF hw rfl hn hno next
theorem doG_callFG {α : Type} {F : α → Value} {x : α} {mk : Nat → Value} {cs : List Value} {t0 : TypeId} {first cap : Nat → List Value} (t : Nat) (hG : lookG G t = some (HasF mk cs t0)) (hmk : ∀ b, mk b = .func (.func f) (first b).toArray (cap b).toArray) (he : Enters P f)
    (ha : ∀ u, evs ((t, u) :: S) xs = some vs) (hc : ∀ b w, Knows w0 H w → w.heap[b]? = some (.cells cs.toArray t0) → Calls P f (first b ++ vs ++ cap b).toArray w (Rets (F x) w))
    (hw : ∀ u, wantedS ops ((t, u) :: S) ⟨some d, .call ⟨.value (.tmp t), xs.toArray, ats⟩, ty, pos, af, g⟩ = some true)
    (hm : t ∈ Oper.looksAt ops ⟨some d, .call ⟨.value (.tmp t), xs.toArray, ats⟩, ty, pos, af, g⟩) (hn : Nat.blt d n = true) (next : ∀ r, r = x → DoG P n w0 ops H K rest ((d, F r) :: S) G) :
    DoG P n w0 ops H K (⟨some d, .call ⟨.value (.tmp t), xs.toArray, ats⟩, ty, pos, af, g⟩ :: rest) S G :=
  doG_g1 t hG rfl (fun u => by
      simp only [knownB, Op.operands, Call.operands]
      rw [Array.all_eq_true_iff_forall_mem]
      intro y hy
      simp at hy
      rcases hy with rfl | hy
      · simp [ev, look_cons_same]
      · exact (evs_spec (ha u)).2 y hy)
    (fun u w k ⟨b, hu, hb⟩ => by
      obtain ⟨e, _⟩ := evs_spec (ha u)
      have h2 : evD ((t, u) :: S) (.tmp t) = .func (.func f) (first b).toArray (cap b).toArray := by
        rw [← hmk, ← hu]
        exact evD_of (by simp [ev, look_cons_same])
      have h3 := he (first b ++ vs ++ cap b).toArray w
      have hrun : (execOp (evD ((t, u) :: S)) ⟨some d, .call ⟨.value (.tmp t), xs.toArray, ats⟩, ty, pos, af, g⟩).run P w = .ok (.enter f (first b ++ vs ++ cap b).toArray) w := by
        simp [execOp, resolve, h2, Deferred.ofValue, invoke, e]
        simpa using h3
      rw [hrun]
      exact ⟨Grow.refl _, (hc b w k hb).mono fun _ _ h => ⟨F x, h.1, h.2, rfl⟩⟩) hw hm rfl hn (next x rfl)
end
end Go.Sx
namespace Go.Sx
open Go.RowKit
abbrev Facts := List (Nat × (Nat → Prop) × (World → Prop))
def lookR : Facts → Nat → Option ((Nat → Prop) × (World → Prop))
  | [], _ => none
  | (k, x) :: R, i => bif Nat.beq k i then some x else lookR R i
def updR : Facts → Nat → (Nat → Prop) → (World → Prop) → Option Facts
  | [], _, _, _ => none
  | (k, x) :: R, i, D, F => bif Nat.beq k i then some ((k, D, F) :: R) else consO (k, x) (updR R i D F)
theorem updR_spec {R R' : Facts} {i : Nat} {D : Nat → Prop} {F : World → Prop} (h : updR R i D F = some R') : ∃ R1 R2 k x, R = R1 ++ (k, x) :: R2 ∧ R' = R1 ++ (k, D, F) :: R2 ∧ lookR R i = some x := by
  induction R generalizing R' with
  | nil => cases h
  | cons y R ih =>
    obtain ⟨k, y⟩ := y
    simp only [updR] at h
    cases hb : Nat.beq k i with
    | true => rw [hb] at h; simp at h; subst h; exact ⟨[], R, k, y, rfl, rfl, by simp [lookR, hb]⟩
    | false =>
      rw [hb] at h
      obtain ⟨R2, h2, rfl⟩ := consO_some h
      obtain ⟨A, B, k', x, e1, e2, e3⟩ := ih h2
      exact ⟨(k, y) :: A, B, k', x, by rw [e1]; rfl, by rw [e2]; rfl, by simp [lookR, hb, e3]⟩
def Holds (w0 : Base) (F : World → Prop) : Prop := ∀ (H : Heap) (w : World), Knows w0 H w → F w
theorem Holds.imp {w0 : Base} {F G : World → Prop} (h : Holds w0 F) (hi : ∀ w, F w → G w) : Holds w0 G := fun H w k => hi w (h H w k)
section
variable {P : Program} {n : Nat} {w0 : Base} {ops : Array Oper} {Q : Exit → Act → World → Prop} {S : Slots} {H : Heap}
variable {d : Nat} {ty : TypeId} {pos : String} {af : Array Edge} {g : Option (Nat × Bool)}
variable {f : FuncId} {xs : List Operand} {ats : Array TypeId} {vs : List Value} {rest : List Oper} {X : Type} {Φ : X → Prop} {V : X → Value} {F : X → World → Prop}
variable {B : Base} {b i0 i j : Nat} {sl : Value} {L : List Int}
def ownD (a : Option Addr) : Nat → Prop := fun k => ∃ ad, a = some ad ∧ ad.block = k
def OwnF (m : Nat) (e : TypeId) (size : Nat) (a : Option Addr) (cap k : Nat) (ys : List Value) : World → Prop := fun w => w.ownsRow m e size (.slice a k cap) k ys
theorem own_dep (m : Nat) (e : TypeId) (size : Nat) (a : Option Addr) (cap k : Nat) (ys : List Value) : Depends (ownD a) (OwnF m e size a cap k ys) := fun w w' h hF => by
  obtain ⟨h1, h2⟩ := hF
  refine ⟨h1, ?_⟩
  rcases h2 with h2 | ⟨gg, cp, cur, hv, h3, h4, h5⟩
  · exact .inl h2
  · refine .inr ⟨gg, cp, cur, hv, h3, ?_, h5⟩
    simp only [Value.slice.injEq] at hv
    rw [h gg ⟨_, hv.1, rfl⟩]
    exact h4
def appB (P : Program) (t e size bytes : Nat) : Bool :=
  match P.underlying t, P.info? e with
  | some (.slice e'), some i => e' == e && i.size == size && i.bytes == bytes && Nat.blt 0 size && (match i.zero with | some z => z.cells.size == size | none => false)
  | _, _ => false
theorem run_append1 {w : World} {t e size bytes base : Nat} {ty : TypeId} (hB : appB P t e size bytes = true) {v : Value} {k : Nat} {ys : List Value} (hown : w.ownsRow base e size v k ys)
    {ad : Addr} {m c : Nat} {news : List Value} (hm : 0 < m) (hl : news.length = m * size) (hnews : ∀ j u, news[j]? = some u → w.cell? (ad.add j) = some u) (h1 : ∀ u ∈ news, u.oneCell' = true)
    (h63 : k + m ≤ 9223372036854775807) (hby : (k + m) * bytes ≤ 140737488355328) (hbase : base ≤ w.heap.size) :
    ∃ gg cap w', (Builtin.append_ #[t, t] ty #[v, .slice (some ad) m c]).run P w = .ok (.slice (some ⟨gg, 0, none⟩) (k + m) cap) w' ∧ w'.ownsRow base e size (.slice (some ⟨gg, 0, none⟩) (k + m) cap) (k + m) (ys ++ news) ∧ w.grownBy w' v.ownBlock ∧
      (v.ownBlock = some gg ∨ w.heap.size ≤ gg) := by
  unfold appB at hB
  cases hu : P.underlying t with
  | none => simp [hu] at hB
  | some ds =>
    cases ds <;> simp [hu] at hB
    rename_i e'
    cases hi : P.info? e with
    | none => simp [hi] at hB
    | some i =>
      simp [hi] at hB
      obtain ⟨⟨⟨⟨rfl, h2⟩, h3⟩, h4⟩, h5⟩ := hB
      cases hz : i.zero with
      | none => simp [hz] at h5
      | some z =>
        simp [hz] at h5
        have hmax : maxLen = 9223372036854775807 := rfl
        obtain ⟨v', w', hr, ho, hg, hiff⟩ := run_append_own (P := P) w base t ty e' i z size bytes hu hi hz h2 h3 h5 h4 v k ys hown ad m c news hl hnews h1 (by omega) hby hbase
        rcases ho.2 with ⟨rfl, h0⟩ | ⟨gg, cap, cur, rfl, hbg, hgg, _⟩
        · omega
        · refine ⟨gg, cap, w', hr, ho, hg, ?_⟩
          rcases Nat.lt_or_ge gg w.heap.size with hlt | hge
          · left
            -- the block lay there before: it is the slice's own
            subst h2
            rcases hown.2 with ⟨rfl, hk0⟩ | ⟨g0, cap0, cur0, rfl, hb0, hg0, hkc, hcm, hcs, htake⟩
            · exfalso
              have hr2 := run_append_nil (P := P) w t ty e' i z hu hi hz ad m c news hl hnews hm (by omega) (by have := hby; subst hk0; subst h3; rw [Nat.zero_add] at this; omega)
              rw [hr] at hr2
              simp only [Result.ok.injEq, Value.slice.injEq, Option.some.injEq, Addr.mk.injEq] at hr2
              omega
            · by_cases hroom : k + m ≤ cap0
              · have hfit : k * i.size + news.length ≤ cur0.size := by rw [hl, hcs, ← Nat.add_mul]; exact Nat.mul_le_mul_right _ hroom
                have hr2 := run_append_room (P := P) w t ty e' i hu hi g0 k cap0 cur0 hg0 ad m c news hl hnews h1 hroom hfit
                rw [hr] at hr2
                simp only [Result.ok.injEq, Value.slice.injEq, Option.some.injEq, Addr.mk.injEq] at hr2
                simp [Value.ownBlock, hr2.1.1.1]
              · exfalso
                have holds : ∀ j u, ys[j]? = some u → w.cell? ((⟨g0, 0, none⟩ : Addr).add j) = some u := hown.cells (g := g0) rfl
                subst h3
                have hr2 := run_append_grow (P := P) w t ty e' i z hu hi hz ⟨g0, 0, none⟩ k cap0 ys hown.1 holds ad m c news hl hnews (by omega) (by omega) (growslice_fits (by omega) hby)
                rw [hr] at hr2
                simp only [Result.ok.injEq, Value.slice.injEq, Option.some.injEq, Addr.mk.injEq] at hr2
                omega
          · exact .inr hge
theorem Knows.append {w w' : World} {R' : Facts} {id e size cap cap' k m gg : Nat} {a : Option Addr} {ys news : List Value} (hk : Knows w0 H w) (hR : lookR w0.R id = some (ownD a, OwnF 0 e size a cap k ys))
    (ho : w'.ownsRow 0 e size (.slice (some ⟨gg, 0, none⟩) (k + m) cap') (k + m) (ys ++ news)) (hg : w.grownBy w' (Value.slice a k cap).ownBlock)
    (hgg : (Value.slice a k cap).ownBlock = some gg ∨ w.heap.size ≤ gg) (hu : updR w0.R id (ownD (some ⟨gg, 0, none⟩)) (OwnF 0 e size (some ⟨gg, 0, none⟩) cap' (k + m) (ys ++ news)) = some R') : Knows ⟨w0.w, R'⟩ H w' := by
  obtain ⟨R1, R2, kk, x, e1, e2, e3⟩ := updR_spec hu
  rw [hR] at e3
  cases e3
  have hmem : (kk, ownD a, OwnF 0 e size a cap k ys) ∈ w0.R := by rw [e1]; simp
  have hfa := hk.facts _ hmem
  have blk : ∀ q, (Value.slice a k cap).ownBlock = some q → ownD a q := fun q hq => by
    cases a with
    | none => simp [Value.ownBlock] at hq
    | some ad => simp [Value.ownBlock] at hq; exact ⟨ad, rfl, hq⟩
  have hlow : ∀ q, q < w.heap.size → ¬ ownD a q → w'.heap[q]? = w.heap[q]? := fun q hq hn => hg.block q hq fun e => hn (blk q e.symm)
  have hgt : gg < w'.heap.size := by
    rcases ho.2 with ⟨h, _⟩ | ⟨g', c', cur, h, _, h4, _⟩
    · simp at h
    · simp only [Value.slice.injEq, Option.some.injEq, Addr.mk.injEq, and_true] at h
      rw [h.1]
      exact heap_lt h4
  have hgm : w0.w.heap.size ≤ gg := by
    rcases hgg with h | h
    · exact (hfa.at' gg (blk gg h)).1
    · exact Nat.le_trans hk.grow.size h
  have hap := hk.apart
  rw [e1] at hap
  have hap1 := List.pairwise_append.1 hap
  have hap2 := List.pairwise_cons.1 hap1.2.1
  -- the new block is none of another fact's
  have others : ∀ y ∈ R1 ++ R2, ¬ y.2.1 gg := fun y hy hd => by
    have hy0 : y ∈ w0.R := by
      rw [e1]
      rcases List.mem_append.1 hy with h | h
      · exact List.mem_append_left _ h
      · exact List.mem_append_right _ (List.mem_cons_of_mem _ h)
    rcases hgg with h | h
    · rcases List.mem_append.1 hy with h' | h'
      · exact hap1.2.2 y h' _ List.mem_cons_self gg hd (blk gg h)
      · exact hap2.1 y h' gg (blk gg h) hd
    · have := ((hk.facts y hy0).at' gg hd).2.1
      omega
  have keepF : ∀ y ∈ R1 ++ R2, RFact w0.w.heap.size H y.2.1 y.2.2 w' := fun y hy => by
    have hy0 : y ∈ w0.R := by
      rw [e1]
      rcases List.mem_append.1 hy with h | h
      · exact List.mem_append_left _ h
      · exact List.mem_append_right _ (List.mem_cons_of_mem _ h)
    obtain ⟨q1, q2, q3⟩ := hk.facts y hy0
    refine ⟨q1, fun q hq => ⟨(q2 q hq).1, Nat.lt_of_lt_of_le (q2 q hq).2.1 hg.size, (q2 q hq).2.2⟩, q1 w w' (fun q hq => hlow q (q2 q hq).2.1 fun ho' => ?_) q3⟩
    rcases List.mem_append.1 hy with h' | h'
    · exact hap1.2.2 y h' _ List.mem_cons_self q hq ho'
    · exact hap2.1 y h' q ho' hq
  refine ⟨⟨hg.os.trans hk.grow.os, hg.tape.trans hk.grow.tape, hg.output.trans hk.grow.output, Nat.le_trans hk.grow.size hg.size, fun q hq => ?_⟩, fun y hy => ⟨(hk.has y hy).1, ?_⟩, hk.nodup, fun y hy => ?_, ?_⟩
  · have hq' : q < w0.w.heap.size := hq
    rw [hlow q (Nat.lt_of_lt_of_le hq' hk.grow.size) fun hd => by have := (hfa.at' q hd).1; omega]
    exact hk.grow.block q hq'
  · rw [hlow _ (heap_lt (hk.has y hy).2) fun hd => (hfa.at' _ hd).2.2 y hy rfl]
    exact (hk.has y hy).2
  · rw [show (⟨w0.w, R'⟩ : Base).R = R' from rfl, e2] at hy
    rcases List.mem_append.1 hy with h | h
    · exact keepF y (List.mem_append_left _ h)
    · rcases List.mem_cons.1 h with rfl | h
      · refine ⟨own_dep _ _ _ _ _ _ _, fun q ⟨ad, had, hq⟩ => ?_, ho⟩
        simp only [Option.some.injEq] at had
        subst had
        simp only at hq
        subst hq
        refine ⟨hgm, hgt, fun y hy e => ?_⟩
        rcases hgg with h | h
        · exact (hfa.at' gg (blk gg h)).2.2 y hy e
        · have := hk.lt y hy
          omega
      · exact keepF y (List.mem_append_right _ h)
  · show R'.Pairwise _
    rw [e2]
    refine List.pairwise_append.2 ⟨hap1.1, List.pairwise_cons.2 ⟨fun y hy q ⟨ad, had, hq⟩ hd => ?_, hap2.2⟩, fun y hy z hz q hyq hzq => ?_⟩
    · simp only [Option.some.injEq] at had
      subst had
      simp only at hq
      subst hq
      exact others y (List.mem_append_right _ hy) hd
    · rcases List.mem_cons.1 hz with rfl | hz
      · obtain ⟨ad, had, hq⟩ := hzq
        simp only [Option.some.injEq] at had
        subst had
        simp only at hq
        subst hq
        exact others y (List.mem_append_left _ hy) hyq
      · exact hap1.2.2 y hy z (List.mem_cons_of_mem _ hz) q hyq hzq
def AllIn (S : Slots) : Slots → Prop
  | [] => True
  | (t, v) :: r => look S t = some v ∧ AllIn S r
theorem Fits.all {S' : Slots} {a : Act} (f : Fits n S a) (h : AllIn S S') : Fits n S' a := by
  refine ⟨f.size, f.defers, fun t v ht => f.has t v ?_⟩
  induction S' with
  | nil => cases ht
  | cons x S' ih =>
    obtain ⟨k, u⟩ := x
    by_cases e : k = t
    · subst e
      rw [look_cons_same] at ht
      cases ht
      exact h.1
    · rw [look_cons_ne _ _ e] at ht
      exact ih h.2 ht
def AllInH (H : Heap) : Heap → Prop
  | [] => True
  | (k, x) :: r => lookH H k = some x ∧ AllInH H r
theorem lookH_at {H : Heap} {i : Nat} {x : Nat × List Value × TypeId} (h : lookH H i = some x) : (i, x) ∈ H := by
  induction H with
  | nil => cases h
  | cons y H ih =>
    obtain ⟨k, y⟩ := y
    simp only [lookH] at h
    cases hb : Nat.beq k i with
    | true =>
      rw [hb] at h; simp at h; subst h
      rw [Nat.eq_of_beq_eq_true hb]
      exact List.mem_cons_self
    | false => rw [hb] at h; simp at h; exact List.mem_cons_of_mem _ (ih h)
theorem heap_uniq : ∀ {H : Heap}, (H.map (·.2.1)).Nodup → ∀ p ∈ H, ∀ q ∈ H, p.2.1 = q.2.1 → p = q := by
  intro H
  induction H with
  | nil => intro _ p hp; cases hp
  | cons z H ih =>
    intro nd p hp q hq e
    rw [List.map_cons, List.nodup_cons] at nd
    rcases List.mem_cons.1 hp with p1 | p1
    · rcases List.mem_cons.1 hq with q1 | q1
      · rw [p1, q1]
      · exact absurd (List.mem_map.2 ⟨q, q1, by rw [← e, p1]⟩) nd.1
    · rcases List.mem_cons.1 hq with q1 | q1
      · exact absurd (List.mem_map.2 ⟨p, p1, by rw [e, q1]⟩) nd.1
      · exact ih nd.2 p p1 q q1 e
def idsB : Heap → Bool
  | [] => true
  | (k, _) :: r => !(r.any fun x => Nat.beq x.1 k) && idsB r
theorem Knows.all {w : World} {H' : Heap} (k : Knows w0 H w) (h : AllInH H H') (hp : idsB H' = true) : Knows w0 H' w := by
  have hm : ∀ x ∈ H', lookH H x.1 = some x.2 := by
    clear hp
    induction H' with
    | nil => intro x hx; cases hx
    | cons z H' ih =>
      intro x hx
      rcases List.mem_cons.1 hx with rfl | hx
      · exact h.1
      · exact ih h.2 x hx
  have nd : (H'.map (·.2.1)).Nodup := by
    clear h
    induction H' with
    | nil => exact List.nodup_nil
    | cons z H' ih =>
      obtain ⟨kz, z⟩ := z
      simp only [idsB, Bool.and_eq_true, Bool.not_eq_true'] at hp
      rw [List.map_cons, List.nodup_cons]
      refine ⟨fun hz => ?_, ih hp.2 fun x hx => hm x (List.mem_cons_of_mem _ hx)⟩
      obtain ⟨y, hy, he⟩ := List.mem_map.1 hz
      have h1 := lookH_at (hm _ List.mem_cons_self)
      have h2 := lookH_at (hm _ (List.mem_cons_of_mem _ hy))
      have h3 := heap_uniq k.nodup _ h2 _ h1 he
      have h4 : y.1 = kz := congrArg Prod.fst h3
      have h5 := List.any_eq_false.1 hp.1 y hy
      rw [h4] at h5
      simp at h5
  refine ⟨k.grow, fun x hx => ?_, nd, fun F hF => (k.facts F hF).heap fun x hx => ?_, k.apart⟩
  · obtain ⟨kx, b, cs, t⟩ := x
    exact k.at (hm _ hx)
  · obtain ⟨l, hl⟩ := lookH_mem (hm x hx)
    exact .inl ⟨_, hl, rfl⟩
theorem AllIn.app {A C : Slots} (h : AllIn S A) (h' : AllIn S C) : AllIn S (A ++ C) := by
  induction A with
  | nil => exact h'
  | cons x A ih => exact ⟨h.1, ih h.2⟩
theorem Told.imp {m : Nat} {D : Nat → Prop} {F G : World → Prop} {w : World} (hD : Depends D G) (hb : ∀ q, D q → m ≤ q ∧ q < w.heap.size) (h : G w) : Told m G w := ⟨D, hD, hb, h⟩
end
end Go.Sx
namespace Go.Sx
open Go.RowKit
def SlcIs (sz : Nat) (a : Option Addr) (rows : List (List Value)) (w : World) : Prop :=
  ∀ j r, rows[j]? = some r → r.length = sz ∧ ∃ b off, a = some ⟨b, off, none⟩ ∧ b < w.heap.size ∧ ∀ k, k < sz → w.cell? ⟨b, off + j * sz + k, none⟩ = r[k]?
theorem flat_get {sz : Nat} : ∀ (rows : List (List Value)), (∀ r ∈ rows, r.length = sz) → ∀ j r, rows[j]? = some r → ∀ k, k < sz → rows.flatten[j * sz + k]? = r[k]?
  | [], _, j, r, hj, _, _ => by simp at hj
  | q :: rows, hs, 0, r, hj, k, hk => by
    simp at hj
    subst hj
    have := hs q List.mem_cons_self
    simp only [List.flatten_cons, Nat.zero_mul, Nat.zero_add]
    rw [List.getElem?_append_left (by omega)]
  | q :: rows, hs, j + 1, r, hj, k, hk => by
    simp only [List.getElem?_cons_succ] at hj
    have hq := hs q List.mem_cons_self
    have := flat_get rows (fun r hr => hs r (List.mem_cons_of_mem _ hr)) j r hj k hk
    simp only [List.flatten_cons]
    rw [List.getElem?_append_right (by rw [hq, Nat.add_mul]; omega), ← this]
    congr 1
    rw [hq, Nat.add_mul]
    omega
theorem own_slc {m e sz cap : Nat} {a : Option Addr} {rows : List (List Value)} {w : World} (hs : ∀ r ∈ rows, r.length = sz) (h : OwnF m e sz a cap rows.length rows.flatten w) : SlcIs sz a rows w := fun j r hj => by
  have hlt := (List.getElem?_eq_some_iff.1 hj).1
  have hr := hs r (List.mem_of_getElem? hj)
  refine ⟨hr, ?_⟩
  rcases h.2 with ⟨h1, h2⟩ | ⟨gg, cp, cur, hv, hm, hg, hc1, hc2, hcs, htake⟩
  · omega
  · simp only [Value.slice.injEq] at hv
    refine ⟨gg, 0, hv.1, heap_lt hg, fun k hk => ?_⟩
    have hlt2 : j * sz + k < rows.length * sz := by
      have h1 := Nat.mul_le_mul_right sz (show j + 1 ≤ rows.length by omega)
      rw [Nat.add_mul] at h1
      omega
    rw [← flat_get rows hs j r hj k hk, ← htake, List.getElem?_take, if_pos hlt2]
    simp [World.cell?, hg]
section
variable {P : Program} {n : Nat} {w0 : Base} {ops : Array Oper} {Q : Exit → Act → World → Prop} {S : Slots} {H : Heap}
variable {d : Option Tmp} {ty : TypeId} {pos : String} {af : Array Edge} {g : Option (Nat × Bool)}
variable {sz : Nat} {a : Option Addr} {rows : List (List Value)} {r : List Value}
variable {X : Type} {Φ : X → Prop} {V : X → Value} {F : X → World → Prop}
end
end Go.Sx
namespace Go.Sx
open Go.RowKit
section
variable {P : Program} {n : Nat} {w0 : Base} {ops : Array Oper} {Q : Exit → Act → World → Prop} {S : Slots} {H : Heap}
variable {d : Nat} {ty : TypeId} {pos : String} {af : Array Edge} {g : Option (Nat × Bool)}
variable {X : Type} {Φ : X → Prop} {V : X → Value} {F : X → World → Prop}
variable {f : FuncId} {xs : List Operand} {ats : Array TypeId} {vs : List Value} {rest : List Oper} {G : Ghosts}
variable {σ : Type} {b : Nat → Prop} {w1 : Base} {H0 : Heap} {Wf : σ → Base} {Hf : σ → Heap} {es : List Nat} {K : σ → Slots → Ghosts → Prop} {ix : Nat} {s s2 : σ}
theorem Yields.mono {w : World} {T T' : Pred} {r : Result Next} (h : Yields P w T r) (hT : ∀ v w', Grow w w' → T v w' → T' v w') : Yields P w T' r := by
  cases r with
  | ok x w' =>
    cases x <;> simp only [Yields] at h ⊢
    case value v => exact ⟨h.1, hT v w' h.1 h.2⟩
    case skip => exact ⟨h.1, hT undef w' h.1 h.2⟩
    case enter ff args => exact ⟨h.1, h.2.mono fun e w'' ⟨v, h1, h2, h3⟩ => ⟨v, h1, h2, hT v w'' (h.1.trans h2) h3⟩⟩
  | halt x w' => simp only [Yields] at h
variable {tl : List Oper} {Fw : World → Prop}
variable {B : Base} {sb si : Nat} {sl : Value} {L : List Int}
end
end Go.Sx
namespace Go.Sx
open Go.RowKit
section
variable {P : Program} {n : Nat} {w0 : Base} {ops : Array Oper} {Q : Exit → Act → World → Prop} {S : Slots} {H : Heap}
variable {d : Nat} {ty : TypeId} {pos : String} {af : Array Edge} {g : Option (Nat × Bool)} {rest : List Oper}
theorem Knows.swap {w w' : World} {R' : Facts} {id : Nat} {D D' : Nat → Prop} {F F' : World → Prop} (hk : Knows w0 H w) (hR : lookR w0.R id = some (D, F)) (hg : GrowB D w w') (hD : ∀ q, D' q → D q)
    (hd : Depends D' F') (hF : F' w') (hu : updR w0.R id D' F' = some R') : Knows ⟨w0.w, R'⟩ H w' := by
  obtain ⟨R1, R2, kk, x, e1, e2, e3⟩ := updR_spec hu
  rw [hR] at e3
  cases e3
  have hmem : (kk, D, F) ∈ w0.R := by rw [e1]; simp
  have hfa := hk.facts _ hmem
  have hap := hk.apart
  rw [e1] at hap
  have hap1 := List.pairwise_append.1 hap
  have hap2 := List.pairwise_cons.1 hap1.2.1
  have other : ∀ y ∈ w0.R, (∀ q, y.2.1 q → ¬ D q) → RFact w0.w.heap.size H y.2.1 y.2.2 w' := fun y hy hn => by
    have hy2 := hk.facts y hy
    exact ⟨hy2.dep, fun q hq => ⟨(hy2.at' q hq).1, Nat.lt_of_lt_of_le (hy2.at' q hq).2.1 hg.size, (hy2.at' q hq).2.2⟩, hy2.dep w w' (fun q hq => hg.block q (hy2.at' q hq).2.1 (hn q hq)) hy2.holds⟩
  refine ⟨⟨hg.os.trans hk.grow.os, hg.tape.trans hk.grow.tape, hg.output.trans hk.grow.output, Nat.le_trans hk.grow.size hg.size, fun q hq => ?_⟩, fun y hy => ?_, hk.nodup, fun y hy => ?_, ?_⟩
  · rw [hg.block q (Nat.lt_of_lt_of_le hq hk.grow.size) fun h => absurd (hfa.at' q h).1 (Nat.not_le_of_lt hq)]
    exact hk.grow.block q hq
  · have h1 := hk.has y hy
    exact ⟨h1.1, by rw [hg.block _ (heap_lt h1.2) fun h => (hfa.at' _ h).2.2 y hy rfl]; exact h1.2⟩
  · have hy' : y ∈ R1 ++ (kk, D', F') :: R2 := by rw [← e2]; exact hy
    rcases List.mem_append.1 hy' with h | h
    · exact other y (by rw [e1]; exact List.mem_append_left _ h) fun q hq => hap1.2.2 y h _ List.mem_cons_self q hq
    · rcases List.mem_cons.1 h with rfl | h
      · exact ⟨hd, fun q hq => ⟨(hfa.at' q (hD q hq)).1, Nat.lt_of_lt_of_le (hfa.at' q (hD q hq)).2.1 hg.size, (hfa.at' q (hD q hq)).2.2⟩, hF⟩
      · exact other y (by rw [e1]; exact List.mem_append_right _ (List.mem_cons_of_mem _ h)) fun q hq hD2 => hap2.1 y h q hD2 hq
  · show R'.Pairwise _
    rw [e2]
    refine List.pairwise_append.2 ⟨hap1.1, List.pairwise_cons.2 ⟨fun y hy q hq => hap2.1 y hy q (hD q hq), hap2.2⟩, fun y hy z hz q hq => ?_⟩
    rcases List.mem_cons.1 hz with rfl | hz
    · exact fun h => hap1.2.2 y hy _ List.mem_cons_self q hq (hD q h)
    · exact hap1.2.2 y hy z (List.mem_cons_of_mem _ hz) q hq
theorem run_newObj (w : World) (o : Obj) : (newObj o).run P w = .ok w.heap.size (w.alloc o) := rfl
theorem run_getIter {w : World} {b p : Nat} {s : ByteArray} (h : w.heap[b]? = some (.stringIter s p)) : (getObj b).run P w = .ok (.stringIter s p) w := by
  unfold getObj
  simp [Sem.run, h]
theorem run_setIter {w : World} {b p : Nat} {s : ByteArray} (o : Obj) (h : w.heap[b]? = some (.stringIter s p)) : (setObj b o).run P w = .ok () { w with heap := w.heap.setIfInBounds b o } := by
  unfold setObj
  simp [Sem.run, h]
theorem setObj_growB {w : World} {b : Nat} {o : Obj} : GrowB (· = b) w { w with heap := w.heap.setIfInBounds b o } :=
  ⟨rfl, rfl, rfl, by simp, fun k _ hk => by simp [Array.getElem?_setIfInBounds_ne (Ne.symm hk)]⟩
end
end Go.Sx
namespace Go.Sx
open Go.RowKit
theorem rows_len {sz : Nat} : ∀ (rows : List (List Value)), (∀ r ∈ rows, r.length = sz) → rows.flatten.length = rows.length * sz
  | [], _ => by simp
  | r :: rows, h => by
    rw [List.flatten_cons, List.length_append, h r List.mem_cons_self, rows_len rows fun x hx => h x (List.mem_cons_of_mem _ hx), List.length_cons, Nat.add_mul]
    omega
theorem rows_set {sz : Nat} : ∀ (rows : List (List Value)) (j : Nat) (vs : List Value), (∀ r ∈ rows, r.length = sz) → j < rows.length → vs.length = sz →
    (rows.set j vs).flatten = rows.flatten.take (j * sz) ++ vs ++ rows.flatten.drop (j * sz + sz)
  | [], j, vs, _, hj, _ => by simp at hj
  | r :: rows, 0, vs, h, _, hv => by
    have hr := h r List.mem_cons_self
    simp only [List.set_cons_zero, List.flatten_cons, Nat.zero_mul, List.take_zero, List.nil_append, Nat.zero_add]
    rw [← hr, List.drop_left]
  | r :: rows, j + 1, vs, h, hj, hv => by
    have hr := h r List.mem_cons_self
    have ih := rows_set rows j vs (fun x hx => h x (List.mem_cons_of_mem _ hx)) (by simpa using hj) hv
    simp only [List.set_cons_succ, List.flatten_cons]
    rw [ih, show (j + 1) * sz = r.length + j * sz by rw [Nat.add_mul, hr]; omega, List.take_length_add_append, Nat.add_assoc, List.drop_length_add_append]
    simp
section
variable {P : Program} {n : Nat} {w0 : Base} {ops : Array Oper} {Q : Exit → Act → World → Prop} {S : Slots} {H : Heap}
variable {ty : TypeId} {pos : String} {af : Array Edge} {g : Option (Nat × Bool)} {rest : List Oper}
end
end Go.Sx
namespace Go.Sx
open Go.RowKit
theorem made_rows {zs : List Value} {sz m : Nat} (hz : zs.length = sz) (h0 : 0 < sz) : madeCells zs.toArray (m * sz) = (List.replicate m zs).flatten.toArray := by
  have hall : ∀ r ∈ List.replicate m zs, r.length = sz := fun r hr => by rw [List.eq_of_mem_replicate hr, hz]
  have hlen := rows_len (sz := sz) (List.replicate m zs) hall
  rw [List.length_replicate] at hlen
  apply Array.ext
  · rw [size_madeCells]; simp only [List.size_toArray]; exact hlen.symm
  · intro k h1 h2
    rw [size_madeCells] at h1
    have hd : k / sz < m := (Nat.div_lt_iff_lt_mul h0).2 h1
    have hm := Nat.mod_lt k h0
    have hg := flat_get (sz := sz) (List.replicate m zs) hall (k / sz) zs (by simp [hd]) (k % sz) hm
    rw [show k / sz * sz + k % sz = k by rw [Nat.mul_comm]; exact Nat.div_add_mod k sz] at hg
    have e1 : (madeCells zs.toArray (m * sz))[k]? = zs[k % sz]? := by
      simp only [madeCells, Array.getElem?_map, List.size_toArray, hz]
      rw [Array.getElem?_range, if_pos h1]
      simp [hz, hm]
    have e2 : (List.replicate m zs).flatten.toArray[k]? = zs[k % sz]? := by rw [List.getElem?_toArray]; exact hg
    have := e1.trans e2.symm
    rw [Array.getElem?_eq_getElem (by rw [size_madeCells]; exact h1), Array.getElem?_eq_getElem h2] at this
    exact Option.some.inj this
def makeB (P : Program) (t e sz bytes : Nat) (zs : List Value) : Prop := P.underlying t = some (.slice e) ∧ ∃ i z, P.info? e = some i ∧ i.zero = some z ∧ i.size = sz ∧ i.bytes = bytes ∧ z.cells.toList = zs ∧ zs.length = sz ∧ 0 < sz
section
variable {P : Program} {n : Nat} {w0 : Base} {ops : Array Oper} {Q : Exit → Act → World → Prop} {S : Slots} {H : Heap}
variable {d : Nat} {ty : TypeId} {pos : String} {af : Array Edge} {g : Option (Nat × Bool)} {rest : List Oper}
theorem makeB_of {t e sz bytes : Nat} {z : Value} (hA : appB P t e sz bytes = true) (hz : zeroIs P e z) : makeB P t e sz bytes z.cells.toList := by
  unfold appB at hA
  unfold zeroIs at hz
  cases hu : P.underlying t with
  | none => simp [hu] at hA
  | some ds =>
    cases ds <;> simp [hu] at hA
    rename_i e'
    cases hi : P.info? e with
    | none => simp [hi] at hA
    | some i =>
      simp only [hi] at hA hz
      simp at hz
      simp only [hz, Bool.and_eq_true, beq_iff_eq] at hA
      obtain ⟨⟨⟨⟨rfl, h2⟩, h3⟩, h4⟩, h5⟩ := hA
      exact ⟨hu, i, z, hi, hz, h2, h3, rfl, by simpa using h5, by simpa using h4⟩
end
end Go.Sx
namespace Go.Sx
open Go.RowKit
section
variable {P : Program} {n : Nat} {w0 : Base} {ops : Array Oper} {Q : Exit → Act → World → Prop} {S : Slots} {H : Heap}
variable {d : Nat} {ty : TypeId} {pos : String} {af : Array Edge} {g : Option (Nat × Bool)} {rest : List Oper}
theorem opV_neA {x y : Operand} {t t' : TypeId} {dd : Option Tmp} {xs ys : List Value} (m : Nat) (hm : Nat.ble m 10000 = true) (hT : aggB P t = true) (hx : ev S x = some (.agg xs.toArray)) (hy : ev S y = some (.agg ys.toArray)) (hcx : cellsB P m t xs = true) (hcy : cellsB P m t ys = true) :
    OpV P w0 S H ⟨dd, .binOp .neq t x y t', ty, pos, af, g⟩ (.bool (!eqCells xs ys)) :=
  opV_of (by simp [knownB, Op.operands, hx, hy]) rfl fun w _ => by
    simp only [aggB, Bool.and_eq_true, Bool.not_eq_true'] at hT
    obtain ⟨k, hk⟩ : ∃ k, k + m = 10000 := ⟨10000 - m, by have := Nat.le_of_ble_eq_true hm; omega⟩
    have h1 := eqC_all (P := P) k m t w xs ys hcx hcy
    have e1 : mkV P t xs = .agg xs.toArray := by
      unfold mkV
      cases hu : P.underlying t with
      | none => simp [hu] at hT
      | some ds => cases ds <;> simp [hu] at hT ⊢
    have e2 : mkV P t ys = .agg ys.toArray := by
      unfold mkV
      cases hu : P.underlying t with
      | none => simp [hu] at hT
      | some ds => cases ds <;> simp [hu] at hT ⊢
    rw [e1, e2, hk] at h1
    have h2 := run_eqGuard_agg w .neq t x y xs.toArray ys.toArray hT.2
    have h3 := run_neq_struct (P := P) w t xs.toArray ys.toArray
    rw [h1] at h3
    simp [execOp, evD_of hx, evD_of hy, h2, h3]
variable {X Y : Type} {Φ : X → Prop} {V : X → Value} {F : X → World → Prop} {Φ2 : Y → Prop} {V2 : Y → Value} {F2 : Y → World → Prop} {G : Ghosts} {tl : List Oper} {Fw : World → Prop}
end
end Go.Sx
namespace Go.Rx
open Go.RowKit
inductive PV where
  | n (k : IntKind) (x : Int)
  | b (x : Bool)
  | s (x : ByteArray)
  | a (cs : List PV)
  | t (cs : List PV)
  | l (rows : List (List PV))
  | z (rows : List (List PV)) (j off : Nat)
  | c (cells : List PV) (off : Nat)
  | f (fn : Nat) (first cap : List PV)
  | ni
  | np
  | nf
inductive Cap where
  | v (x : PV)
  | p (id off : Nat)
inductive HV where
  | v (x : PV)
  | nl
  | o (id : Nat)
  | p (id off : Nat)
  | q (id j off : Nat)
  | g (fn : Nat) (first : List PV) (cap : List Cap)
  | un
inductive Ent where
  | blk (cells : List HV)
  | reg (e sz : Nat) (rows : List (List PV))
  | itr (s : ByteArray) (pos : Nat)
abbrev Mem := List (Nat × Ent)
def lookM : Mem → Nat → Option Ent
  | [], _ => none
  | (k, x) :: M, i => bif Nat.beq k i then some x else lookM M i
def lookS : List (Nat × HV) → Nat → Option HV
  | [], _ => none
  | (k, x) :: M, i => bif Nat.beq k i then some x else lookS M i
inductive CV where
  | h (x : HV)
  | o (id e sz : Nat) (rows : List (List PV))
inductive RC where
  | v (x : PV)
  | p (id off : Nat) (cells : List CV)
inductive RV where
  | v (x : PV)
  | nl
  | o (id e sz : Nat) (rows : List (List PV))
  | p (id off : Nat) (cells : List CV)
  | q (id j off e sz : Nat) (rows : List (List PV))
  | i (id off : Nat) (s : ByteArray) (pos : Nat)
  | g (fn : Nat) (first : List PV) (cap : List RC)
  | w (x : HV)
  | un
def mapO {α β : Type} (f : α → Option β) : List α → Option (List β)
  | [] => some []
  | x :: xs => (f x).bind fun y => (mapO f xs).bind fun ys => some (y :: ys)
def cvOf (M : Mem) : HV → Option CV
  | .o id => match lookM M id with
    | some (.reg e sz rows) => some (.o id e sz rows)
    | _ => none
  | x => some (.h x)
def rcOf (M : Mem) : Cap → Option RC
  | .v x => some (.v x)
  | .p id off => match lookM M id with
    | some (.blk cells) => (mapO (cvOf M) cells).bind fun cs => some (.p id off cs)
    | _ => none
def res (M : Mem) : HV → Option RV
  | .v x => some (.v x)
  | .nl => some .nl
  | .un => some .un
  | .o id => match lookM M id with
    | some (.reg e sz rows) => some (.o id e sz rows)
    | _ => none
  | .p id off => match lookM M id with
    | some (.blk cells) => (mapO (cvOf M) cells).bind fun cs => some (.p id off cs)
    | some (.itr s pos) => some (.i id off s pos)
    | _ => none
  | .q id j off => match lookM M id with
    | some (.reg e sz rows) => some (.q id j off e sz rows)
    | _ => none
  | .g fn first cap => (mapO (rcOf M) cap).bind fun cs => some (.g fn first cs)
def sh : HV → RV
  | .v x => .v x
  | .nl => .nl
  | .un => .un
  | x => .w x
def mode : Op → Nat
  | .move _ | .assign _ | .pick .. | .fieldAddr .. | .nilCheck _ | .makeFunc .. | .box .. => 1
  | .indexAddr .. => 2
  | _ => 0
def resM : Nat → Mem → HV → Option RV
  | 0, M, x => res M x
  | 1, _, x => some (sh x)
  | _ + 2, M, .o id => res M (.o id)
  | _ + 2, _, x => some (sh x)
def CV.back : CV → HV
  | .h x => x
  | .o id _ _ _ => .o id
def RC.back : RC → Cap
  | .v x => .v x
  | .p id off _ => .p id off
def RV.back : RV → HV
  | .v x => .v x
  | .nl => .nl
  | .o id _ _ _ => .o id
  | .p id off _ => .p id off
  | .q id j off _ _ _ => .q id j off
  | .i id off _ _ => .p id off
  | .g fn first cap => .g fn first (cap.map RC.back)
  | .w x => x
  | .un => .un
def CV.fz : CV → Option PV
  | .h (.v x) => some x
  | .h .nl => some (.l [])
  | .o _ _ _ rows => some (.l rows)
  | _ => none
def RC.fz : RC → Option PV
  | .v x => some x
  | .p _ off cells => (mapO CV.fz cells).bind fun cs => some (.c cs off)
def RV.fz : RV → Option PV
  | .v x => some x
  | .nl => some (.l [])
  | .o _ _ _ rows => some (.l rows)
  | .p _ off cells => (mapO CV.fz cells).bind fun cs => some (.c cs off)
  | .q _ j off _ _ rows => some (.z rows j off)
  | .g fn first cap => (mapO RC.fz cap).bind fun cs => some (.f fn first cs)
  | _ => none
abbrev Regs := List (Nat × List (List PV))
def CV.regs : CV → Regs
  | .o id _ _ rows => [(id, rows)]
  | _ => []
def catR {α : Type} (f : α → Regs) : List α → Regs
  | [] => []
  | x :: xs => match f x with
    | [] => catR f xs
    | ys => ys ++ catR f xs
def RV.regs : RV → Regs
  | .o id _ _ rows => [(id, rows)]
  | .q id _ _ _ _ rows => [(id, rows)]
  | _ => []
def RV.still : RV → Bool
  | .p .. => false
  | .i .. => false
  | .w _ => false
  | .g _ _ cap => cap.all fun c => match c with | .v _ => true | .p .. => false
  | _ => true
structure Eff where
  up : List (Nat × Option Ent)
  sb : List (Nat × Option (List (List PV)))
  x : HV
  nw : List Nat
def Eff.val (x : HV) : Eff := ⟨[], [], x, []⟩
def Eff.new (id : Nat) (e : Ent) (x : HV) : Eff := ⟨[(id, some e)], [], x, [id]⟩
def Eff.set (id : Nat) (e : Ent) (x : HV) : Eff := ⟨[(id, some e)], [], x, []⟩
def Eff.app (id : Nat) (e : Ent) (x : HV) : Eff := ⟨[(id, some e)], [(id, none)], x, []⟩
def Eff.and (e : Eff) (rs : Regs) : Eff := match rs with
  | [] => e
  | rs => ⟨e.up ++ rs.map fun r => (r.1, none), e.sb ++ rs.map fun r => (r.1, some r.2), e.x, e.nw⟩
def Eff.frz (rs : Regs) (x : HV) : Eff := (Eff.val x).and rs
def catL {α : Type} (f : α → List Nat) : List α → List Nat
  | [] => []
  | x :: xs => match f x with
    | [] => catL f xs
    | ys => ys ++ catL f xs
def HV.ids : HV → List Nat
  | .o id => [id]
  | .q id _ _ => [id]
  | _ => []
def Cap.every : Cap → List Nat
  | .v _ => []
  | .p id _ => [id]
def HV.every : HV → List Nat
  | .o id => [id]
  | .p id _ => [id]
  | .q id _ _ => [id]
  | .g _ _ cap => catL Cap.every cap
  | _ => []
def CV.fol : CV → List Nat
  | .h _ => []
  | .o id _ _ _ => [id]
def RC.fol : RC → List Nat
  | .v _ => []
  | .p id _ cells => id :: catL CV.fol cells
def RV.fol : RV → List Nat
  | .o id _ _ _ => [id]
  | .p id _ cells => id :: catL CV.fol cells
  | .q id _ _ _ _ _ => [id]
  | .i id _ _ _ => [id]
  | .g _ _ cap => catL RC.fol cap
  | _ => []
def CV.ids : CV → List Nat
  | .h x => x.ids
  | .o id _ _ _ => [id]
def RC.ids : RC → List Nat
  | .v _ => []
  | .p id _ cells => id :: catL CV.ids cells
def RV.ids : RV → List Nat
  | .o id _ _ _ => [id]
  | .p id _ cells => id :: catL CV.ids cells
  | .q id _ _ _ _ _ => [id]
  | .i id _ _ _ => [id]
  | .g _ _ cap => catL RC.ids cap
  | .w x => x.ids
  | _ => []
def Ent.ids : Ent → List Nat
  | .blk cells => catL HV.ids cells
  | _ => []
def upIds (u : Nat × Option Ent) : List Nat := match u.2 with
  | some e => u.1 :: e.ids
  | none => [u.1]
def Eff.wr (e : Eff) : List Nat := e.up.map (·.1) ++ e.sb.map (·.1)
def Eff.all (e : Eff) : List Nat := catL upIds e.up ++ e.x.ids ++ e.nw
def subFind : List (Nat × Option (List (List PV))) → Nat → Option (Option (List (List PV)))
  | [], _ => none
  | (k, x) :: M, i => bif Nat.beq k i then some x else subFind M i
def HV.sub (sb : List (Nat × Option (List (List PV)))) : HV → HV
  | .o id => match subFind sb id with
    | none => .o id
    | some none => .un
    | some (some rows) => .v (.l rows)
  | .q id j off => match subFind sb id with
    | none => .q id j off
    | some none => .un
    | some (some rows) => .v (.z rows j off)
  | x => x
def Ent.sub (sb : List (Nat × Option (List (List PV)))) : Ent → Ent
  | .blk cells => .blk (cells.map (HV.sub sb))
  | x => x
def remM (i : Nat) : Mem → Mem
  | [] => []
  | (k, x) :: M => bif Nat.beq k i then remM i M else (k, x) :: remM i M
def putM (i : Nat) (e : Ent) : Mem → Mem
  | [] => [(i, e)]
  | (k, x) :: M => bif Nat.beq k i then (i, e) :: M else (k, x) :: putM i e M
def ups : List (Nat × Option Ent) → Mem → Mem
  | [], M => M
  | (i, some e) :: l, M => ups l (putM i e M)
  | (i, none) :: l, M => ups l (remM i M)
structure St where
  S : List (Nat × HV)
  M : Mem
def subS (sb : List (Nat × Option (List (List PV)))) (S : List (Nat × HV)) : List (Nat × HV) := match sb with
  | [] => S
  | y :: ys => S.map fun x => (x.1, x.2.sub (y :: ys))
def subM (sb : List (Nat × Option (List (List PV)))) (M : Mem) : Mem := match sb with
  | [] => M
  | y :: ys => M.map fun x => (x.1, x.2.sub (y :: ys))
def St.apply (σ : St) (e : Eff) (dst : Option Nat) : St :=
  ⟨match dst with | some d => (d, e.x) :: subS e.sb σ.S | none => subS e.sb σ.S, ups e.up (subM e.sb σ.M)⟩
structure FnI where
  body : Code
  ntmps : Nat
  results : List ResultVar
structure Hint where
  keep : List Nat := []
  ids : List Nat := []
  own : List (Nat × Nat × Nat × Nat) := []      -- slot, id, elem, size
  frz : List Nat := []
inductive Kd where
  | i (k : IntKind)
  | b
  | s
  deriving DecidableEq
structure Tab where
  sz : Nat → Option (Bool × Nat)
  zr : Nat → Option (List PV)
  zh : Nat → Option (List HV)
  fd : Nat → Nat → Option Nat
  fx : Nat → Nat → Option (Nat × Bool × Nat)
  ar : Nat → Option (Nat × Nat × Bool)
  sl : Nat → Option (Nat × Nat)
  ly : Nat → Option (List (Nat × Nat))
  ik : Nat → Option IntKind
  str : Nat → Bool
  bo : Nat → Bool
  eqK : Nat → Option (List Kd)
  fn : Nat → Option FnI
  hint : Nat → Nat → Hint
  rw : Nat → Bool
  dd : Nat → Bool
  ownR : Nat → Nat → Bool
inductive Ret where
  | v (x : PV)
  | ow (e sz : Nat) (rows : List (List PV))
  | pb (cells : List PV)
def takeL {α : Type} : List α → Nat → Option (List α)
  | _, 0 => some []
  | c :: cs, k + 1 => (takeL cs k).bind fun l => some (c :: l)
  | [], _ + 1 => none
def sliceL {α : Type} : List α → Nat → Nat → Option (List α)
  | cs, 0, k => takeL cs k
  | _ :: cs, off + 1, k => sliceL cs off k
  | [], _ + 1, _ => none
def spliceL {α : Type} : List α → Nat → List α → Option (List α)
  | cs, 0, [] => some cs
  | _ :: cs, 0, v :: vs => (spliceL cs 0 vs).bind fun l => some (v :: l)
  | c :: cs, off + 1, vs => (spliceL cs off vs).bind fun l => some (c :: l)
  | [], 0, _ :: _ => none
  | [], _ + 1, _ => none
def PV.cells : PV → List PV
  | .a cs => cs
  | x => [x]
def PV.flat1 : PV → Bool
  | .n .. => true
  | .b _ => true
  | .s _ => true
  | _ => false
def PV.flat2 : PV → Bool
  | .a cs => cs.all PV.flat1
  | x => x.flat1
def PV.flat : PV → Bool
  | .t cs => cs.all PV.flat2
  | x => x.flat2
def kdIs : Kd → PV → Bool
  | .i k, .n k' _ => decide (k = k')
  | .b, .b _ => true
  | .s, .s _ => true
  | _, _ => false
def kdsAre : List Kd → List PV → Bool
  | [], [] => true
  | k :: ks, p :: ps => kdIs k p && kdsAre ks ps
  | _, _ => false
def cellEq : PV → PV → Option Bool
  | .n _ x, .n _ y => some (decide (x = y))
  | .b x, .b y => some (x == y)
  | .s x, .s y => some (x == y)
  | _, _ => none
def cellsEq : List PV → List PV → Option Bool
  | [], [] => some true
  | x :: xs, y :: ys => (cellEq x y).bind fun e => (cellsEq xs ys).bind fun es => some (e && es)
  | _, _ => none
def constPV : Value → Option PV
  | .int k x => some (.n k x)
  | .bool x => some (.b x)
  | .string x => some (.s x)
  | .nilIface => some .ni
  | .pointer none => some .np
  | .nilFunc => some .nf
  | .slice none 0 0 => some (.l [])
  | _ => none
def constRV : Value → Option RV
  | .slice none 0 0 => some .nl
  | .agg cs => (mapO constPV cs.toList).bind fun l => some (.v (.a l))
  | x => (constPV x).bind fun y => some (.v y)
def opv (m : Nat) (σ : St) : Operand → Option RV
  | .tmp t => (lookS σ.S t).bind (resM m σ.M)
  | .const v => constRV v
  | .func f => some (.v (.f f [] []))
  | .global _ => none
def binI (op : BinOp) (k : IntKind) (x y : Int) : Option PV :=
  match op with
  | .add => some (.n k (k.wrap (x + y)))
  | .sub => some (.n k (k.wrap (x - y)))
  | .mul => some (.n k (k.wrap (x * y)))
  | .quo => bif decide (y = 0) then none else some (.n k (k.wrap (x.tdiv y)))
  | .rem => bif decide (y = 0) then none else some (.n k (x.tmod y))
  | .and => some (.n k (k.wrap ((BitVec.ofInt k.bits x &&& BitVec.ofInt k.bits y).toNat)))
  | .lss => some (.b (decide (x < y)))
  | .leq => some (.b (decide (x ≤ y)))
  | .gtr => some (.b (decide (y < x)))
  | .geq => some (.b (decide (y ≤ x)))
  | .eql => some (.b (decide (x = y)))
  | .neq => some (.b (!decide (x = y)))
  | _ => none
def binP (T : Tab) (op : BinOp) (t : Nat) (x y : PV) : Option PV :=
  match op, x, y with
  | .shl, .n k x, .n _ y => bif decide (0 ≤ y) then some (.n k (k.wrap (x * 2 ^ (min y.toNat k.bits)))) else none
  | .shr, .n k x, .n _ y => bif decide (0 ≤ y) then some (.n k (x.fdiv (2 ^ (min y.toNat k.bits)))) else none
  | op, .n k x, .n k' y => bif decide (k = k') then binI op k x y else none
  | .eql, .s x, .s y => bif T.str t then some (.b (x.toList == y.toList)) else none
  | .neq, .s x, .s y => bif T.str t then some (.b (!(x.toList == y.toList))) else none
  | .eql, .b x, .b y => bif T.bo t then some (.b (x == y)) else none
  | .neq, .b x, .b y => bif T.bo t then some (.b (!(x == y))) else none
  | .eql, .a x, .a y => (T.eqK t).bind fun ks => bif kdsAre ks x && kdsAre ks y then (cellsEq x y).bind fun e => some (.b e) else none
  | .neq, .a x, .a y => (T.eqK t).bind fun ks => bif kdsAre ks x && kdsAre ks y then (cellsEq x y).bind fun e => some (.b (!e)) else none
  | _, _, _ => none
def nilCmp : BinOp → PV → Option PV
  | .eql, .l (_ :: _) => some (.b false)
  | .neq, .l (_ :: _) => some (.b true)
  | _, _ => none
def RV.pv : RV → Option PV
  | .v x => some x
  | _ => none
def capOf : RV → Option Cap
  | .v y => some (.v y)
  | .w (.p id off) => some (.p id off)
  | _ => none
def RV.hcells : RV → Option (List HV)
  | .v (.a cs) => some (cs.map .v)
  | .v (.t _) => none
  | .un => none
  | .w (.v _) => none
  | .w .un => none
  | x => some [x.back]
def RV.pcells : RV → Option (List PV × Regs)
  | .v (.t _) => none
  | .v x => some (x.cells, [])
  | .nl => some ([.l []], [])
  | .o id _ _ rows => some ([.l rows], [(id, rows)])
  | _ => none
def partsP : List RV → Option (List (List PV) × Regs)
  | [] => some ([], [])
  | x :: xs => x.pcells.bind fun c => (partsP xs).bind fun r => some (c.1 :: r.1, match c.2 with | [] => r.2 | q => q ++ r.2)
def fillP (pl : List (Nat × Nat)) : List PV → List Nat → List (List PV) → Option (List PV)
  | cells, [], [] => some cells
  | cells, i :: is, v :: vs => (pl[i]?).bind fun x => bif Nat.beq v.length x.2 then (spliceL cells x.1 v).bind fun cs => fillP pl cs is vs else none
  | _, _, _ => none
def fillR (sz : Nat) : List (List PV) → List Nat → List (List PV) → Option (List (List PV))
  | rows, [], [] => some rows
  | rows, i :: is, v :: vs => bif Nat.blt i rows.length && Nat.beq v.length sz then fillR sz (rows.set i v) is vs else none
  | _, _, _ => none
def replL {α : Type} (x : α) : Nat → List α
  | 0 => []
  | k + 1 => x :: replL x k
def disj : List Nat → List Nat → Bool
  | [], _ => true
  | x :: xs, ys => !(ys.any (Nat.beq x)) && disj xs ys
def bndsOf (lo hi : Option Operand) (vs : List RV) : Option (Option Int × Option Int) := match lo, hi, vs with
  | some _, some _, [.v (.n _ i), .v (.n _ j)] => some (some i, some j)
  | none, some _, [.v (.n _ j)] => some (none, some j)
  | some _, none, [.v (.n _ i)] => some (some i, none)
  | _, _, _ => none
def loOf : Option Int → Nat
  | some i => i.toNat
  | none => 0
def hiOf (j : Option Int) (n : Nat) : Nat := match j with
  | some j => j.toNat
  | none => n
def inS (i j : Option Int) (n : Nat) : Bool := (match i with | some i => decide (0 ≤ i) | none => true) && (match j with | some j => decide (0 ≤ j) | none => true) && decide (loOf i ≤ hiOf j n) && decide (hiOf j n ≤ n)
def rowOk (rows : List (List PV)) (l k : Nat) : Bool := (rows[l]?).all fun r => Nat.beq r.length k
def newsOf : RV → Option (List (List PV))
  | .v (.l rows) => some rows
  | .o _ _ _ rows => some rows
  | .nl => some []
  | _ => none
def inB (i : Int) (n : Nat) : Bool := decide (0 ≤ i) && decide (i.toNat < n)
abbrev CallF := Nat → List PV → Option Ret
abbrev CallB := Nat → List HV → List PV → Option (PV × List PV)
def pid : Nat := 1000000
def retEff (T : Tab) (fnid dst : Nat) (hs : Regs) : Ret → Option Eff
  | .v x => match hs with
    | [] => some (.val (.v x))
    | hs => bif x.flat then some (.val (.v x)) else some (.frz hs (.v x))
  | .ow e sz rows => bif T.ownR fnid dst then
      (match hs with
       | [] => some (.new dst (.reg e sz rows) (.o dst))
       | _ => none)
    else (match hs with
       | [] => some (.val (.v (.l rows)))
       | hs => some (.frz hs (.v (.l rows))))
  | .pb cells => match hs with
    | [] => some (.new dst (.blk (cells.map .v)) (.p dst 0))
    | _ => none
def callEff (T : Tab) (callA : CallF) (me dst : Nat) (f : Nat) (args : List RV) : Option Eff :=
  (mapO RV.fz args).bind fun ps => (callA f ps).bind fun r =>
    bif args.all RV.still then retEff T me dst (catR RV.regs args) r
    else match r with
      | .v x => bif x.flat then some (.val (.v x)) else none
      | _ => none
def CV.pv : CV → Option PV
  | .h (.v x) => some x
  | _ => none
def findP : List RV → Option (Nat × List CV)
  | [] => none
  | x :: xs => match x with
    | .p id _ cells => some (id, cells)
    | _ => findP xs
def RV.toB (id : Nat) : RV → Option HV
  | .p id' off _ => bif Nat.beq id' id then some (.p pid off) else none
  | x => bif x.still then x.fz.bind fun y => some (.v y) else none
def callEffB (callB : CallB) (f : Nat) (args : List RV) : Option Eff :=
  (findP args).bind fun p => (mapO CV.pv p.2).bind fun ps => (mapO (RV.toB p.1) args).bind fun hs => (callB f hs ps).bind fun r =>
    some (Eff.and (.set p.1 (.blk (r.2.map .v)) (.v r.1)) (catR RV.regs args))
def evalO (T : Tab) (callA : CallF) (callB : CallB) (me dst : Nat) (op : Op) (vs : List RV) : Option Eff :=
  match op, vs with
  | .move _, [x] => some (.val x.back)
  | .assign _, [x] => some (.val x.back)
  | .pick .., [.v (.b c), x, y] => some (.val (bif c then x.back else y.back))
  | .alloc t, [] => (T.zh t).bind fun cs => some (.new dst (.blk cs) (.p dst 0))
  | .box _ _, [x] => x.hcells.bind fun hs => some (.new dst (.blk hs) (.p dst 0))
  | .build t ps, vs => (T.zr t).bind fun zs => (T.ly t).bind fun pl => (partsP vs).bind fun r =>
      (fillP pl zs (ps.toList.map (·.1)) r.1).bind fun cs => some (.frz r.2 (.v (.a cs)))
  | .buildSlice t len ps, vs => (T.sl t).bind fun e => (T.zr e.1).bind fun zs => (partsP vs).bind fun r =>
      bif Nat.ble (len * e.2) 16777216 then (fillR e.2 (replL zs len) (ps.toList.map (·.1)) r.1).bind fun rows => some ((Eff.new dst (.reg e.1 e.2 rows) (.o dst)).and r.2) else none
  | .load t _, [x] => (T.sz t).bind fun k => match x with
      | .p _ off cells => bif k.1 then
          (sliceL cells off k.2).bind fun cs => (mapO CV.fz cs).bind fun ps => some (.frz (catR CV.regs cs) (.v (.a ps)))
        else (cells[off]?).bind fun c => some (.val c.back)
      | .q _ j off _ _ rows => (rows[j]?).bind fun r => bif k.1 then (sliceL r off k.2).bind fun cs => some (.val (.v (.a cs))) else (r[off]?).bind fun c => some (.val (.v c))
      | .v (.z rows j off) => (rows[j]?).bind fun r => bif k.1 then (sliceL r off k.2).bind fun cs => some (.val (.v (.a cs))) else (r[off]?).bind fun c => some (.val (.v c))
      | .v (.c cells off) => bif k.1 then (sliceL cells off k.2).bind fun cs => some (.val (.v (.a cs))) else (cells[off]?).bind fun c => some (.val (.v c))
      | _ => none
  | .store t _ _, [x, y] => (T.sz t).bind fun k => match x with
      | .p id off cells => y.hcells.bind fun hs => bif Nat.beq hs.length k.2 then (spliceL (cells.map CV.back) off hs).bind fun cs => some (.set id (.blk cs) .un) else none
      | .q id j off e sz rows => y.pcells.bind fun c => (rows[j]?).bind fun r => bif Nat.beq c.1.length k.2 && disj [id] (c.2.map (·.1)) then (spliceL r off c.1).bind fun r' => some ((Eff.set id (.reg e sz (rows.set j r')) .un).and c.2) else none
      | _ => none
  | .nilCheck _, [x] => match x with
      | .w (.p ..) => some (.val x.back)
      | .w (.q ..) => some (.val x.back)
      | .v (.z ..) => some (.val x.back)
      | .v (.c ..) => some (.val x.back)
      | _ => none
  | .binOp op t _ _ _, [.v x, .v y] => (binP T op t x y).bind fun r => some (.val (.v r))
  | .binOp op t _ _ _, [.v x, .nl] => (T.sl t).bind fun _ => (nilCmp op x).bind fun r => some (.val (.v r))
  | .unOp .not _ _, [.v (.b x)] => some (.val (.v (.b (!x))))
  | .unOp .neg _ _, [.v (.n k x)] => some (.val (.v (.n k (k.wrap (0 - x)))))
  | .convert s d _, [.v (.n k x)] => (T.ik s).bind fun k1 => (T.ik d).bind fun k2 => bif decide (k = k1) then some (.val (.v (.n k2 (k2.wrap x)))) else none
  | .makeFunc (.func fn) first _, vs => (mapO RV.pv (vs.take first.size)).bind fun fs =>
      (match mapO RV.pv (vs.drop first.size) with
       | some cs => some (.val (.v (.f fn fs cs)))
       | none => (mapO capOf (vs.drop first.size)).bind fun cs => some (.val (.g fn fs cs)))
  | .makeSlice t _ _, [.v (.n _ n), .v (.n _ c)] => (T.sl t).bind fun e => (T.zr e.1).bind fun zs =>
      bif decide (0 ≤ n) && decide (n ≤ c) && decide (c ≤ 1000000) then some (.new dst (.reg e.1 e.2 (replL zs n.toNat)) (.o dst)) else none
  | .slice t _ lo hi none, x :: vs => (bndsOf lo hi vs).bind fun b => (match x with
      | .v (.s s) => bif T.str t && inS b.1 b.2 s.size then some (.val (.v (.s (s.extract (loOf b.1) (hiOf b.2 s.size))))) else none
      | .v (.l rows) => (T.sl t).bind fun e => bif inS b.1 b.2 rows.length && rowOk rows (loOf b.1) e.2 then some (.val (.v (.l ((rows.take (hiOf b.2 rows.length)).drop (loOf b.1))))) else none
      | .o id e' sz rows => (match b with
          | (none, some j) => (T.sl t).bind fun e => bif Nat.beq sz e.2 && decide (0 ≤ j) && decide (j.toNat ≤ rows.length) then some (.app id (.reg e' sz (rows.take j.toNat)) (.o id)) else none
          | _ => none)
      | _ => none)
  | .fieldAddr t _ f, [x] => (T.fd t f).bind fun o => match x with
      | .w (.p id off) => some (.val (.p id (off + o)))
      | .w (.q id j off) => some (.val (.q id j (off + o)))
      | .v (.z rows j off) => some (.val (.v (.z rows j (off + o))))
      | .v (.c cells off) => some (.val (.v (.c cells (off + o))))
      | _ => none
  | .field t _ f, [.v (.a cs)] => (T.fx t f).bind fun o => bif o.2.1 then (sliceL cs o.1 o.2.2).bind fun r => some (.val (.v (.a r))) else (cs[o.1]?).bind fun r => some (.val (.v r))
  | .indexAddr t _ _, [x, .v (.n _ i)] => match x with
      | .w (.p id off) => (T.ar t).bind fun k => bif inB i k.1 then some (.val (.p id (off + i.toNat * k.2.1))) else none
      | .w (.q id j off) => (T.ar t).bind fun k => bif inB i k.1 then some (.val (.q id j (off + i.toNat * k.2.1))) else none
      | .v (.c cells off) => (T.ar t).bind fun k => bif inB i k.1 then some (.val (.v (.c cells (off + i.toNat * k.2.1)))) else none
      | .v (.z rows j off) => (T.ar t).bind fun k => bif inB i k.1 then some (.val (.v (.z rows j (off + i.toNat * k.2.1)))) else none
      | .o id _ sz rows => (T.sl t).bind fun e => bif inB i rows.length && Nat.beq sz e.2 then some (.val (.q id i.toNat 0)) else none
      | .v (.l rows) => (T.sl t).bind fun e => (rows[i.toNat]?).bind fun r => bif decide (0 ≤ i) && Nat.beq r.length e.2 then some (.val (.v (.z rows i.toNat 0))) else none
      | _ => none
  | .index t _ _, [x, .v (.n _ i)] => match x with
      | .v (.a cs) => (T.ar t).bind fun k => bif inB i k.1 then (bif k.2.2 then (sliceL cs (i.toNat * k.2.1) k.2.1).bind fun r => some (.val (.v (.a r))) else (cs[i.toNat]?).bind fun r => some (.val (.v r))) else none
      | _ => none
  | .range t _, [.v (.s s)] => bif T.str t then some (.new dst (.itr s 0) (.p dst 0)) else none
  | .next _ true, [.i id 0 s pos] =>
      bif decide (pos < s.size) then
        let r := Utf8.decode s pos
        some (.set id (.itr s (pos + r.2)) (.v (.t [.b true, .n .i64 (pos : Int), .n .i32 (r.1 : Int)])))
      else some (.val (.v (.t [.b false])))
  | .extract _ i, [.v (.t cs)] => (cs[i]?).bind fun r => some (.val (.v r))
  | .call ⟨.builtin b, _, ats⟩, vs => match b, vs with
      | .len, [x] => (match x with
          | .v (.s s) => (match ats[0]? with | some t => bif T.str t then some (.val (.v (.n .i64 (s.size : Int)))) else none | none => none)
          | .v (.l rows) => (match ats[0]? with | some t => (T.sl t).bind fun _ => some (.val (.v (.n .i64 (rows.length : Int)))) | none => none)
          | .nl => (match ats[0]? with | some t => (T.sl t).bind fun _ => some (.val (.v (.n .i64 0))) | none => none)
          | .o _ _ _ rows => (match ats[0]? with | some t => (T.sl t).bind fun _ => some (.val (.v (.n .i64 (rows.length : Int)))) | none => none)
          | _ => none)
      | .min, [.v (.n k x), .v (.n k' y)] => bif decide (k = k') then some (.val (.v (.n k (min x y)))) else none
      | .max, [.v (.n k x), .v (.n k' y)] => bif decide (k = k') then some (.val (.v (.n k (max x y)))) else none
      | .append, [x, y] => (match ats.toList with
          | [t, t'] => bif Nat.beq t t' then (T.sl t).bind fun e => (newsOf y).bind fun news => bif rowOk news 0 e.2 then (match x with
              | .nl => bif decide (news.length ≤ 1000000) then some (.new dst (.reg e.1 e.2 news) (.o dst)) else none
              | .o id e' sz rows => bif Nat.beq e' e.1 && Nat.beq sz e.2 && decide (rows.length + news.length ≤ 1000000) && !(y.ids.any (Nat.beq id)) then some (.app id (.reg e' sz (rows ++ news)) (.o id)) else none
              | _ => none) else none else none
          | _ => none)
      | _, _ => none
  | .call ⟨.value _, _, _⟩, x :: vs => match x with
      | .v (.f f first cap) => bif T.rw f then callEffB callB f (first.map .v ++ vs ++ cap.map .v) else callEff T callA me dst f (first.map .v ++ vs ++ cap.map .v)
      | .g f first cap => callEff T callA me dst f (first.map .v ++ vs ++ cap.map fun c => match c with | .v x => .v x | .p id off cells => .p id off cells)
      | _ => none
  | .defer ⟨.value _, args, _⟩, x :: _ => bif args.isEmpty then (match x with
      | .v (.f f _ _) => bif T.dd f then some (.val .un) else none
      | .g f _ _ => bif T.dd f then some (.val .un) else none
      | _ => none) else none
  | _, _ => none
def guardOf (ops : Array Oper) (σ : St) (o : Oper) : Option Bool :=
  match o.guard with
  | none => some true
  | some (j, b) => match (ops[j]?).bind (·.dst) with
    | some d => match lookS σ.S d with
      | some (.v (.b c)) => some (c == b)
      | some (.v (.t [])) => some false
      | _ => none
    | none => none
structure Cx where
  T : Tab
  cA : CallF
  cB : CallB
  me : Nat
  n : Nat
def dstB (n : Nat) : Option Nat → Bool
  | some d => Nat.blt d n
  | none => true
def stepO (C : Cx) (ops : Array Oper) (o : Oper) (σ : St) : Option (Eff × List RV) :=
  (guardOf ops σ o).bind fun g => bif dstB C.n o.dst then
    bif g then
      (mapO (opv (mode o.op) σ) o.op.operands.toList).bind fun vs => (evalO C.T C.cA C.cB C.me (o.dst.getD 0) o.op vs).bind fun e =>
        bif e.nw.all (fun id => (lookM σ.M id).isNone) then some (e, vs) else none
    else some (.val (.v (.t [])), [])
  else none
abbrev Done := Nat × Eff × List RV
def indepB (ops : Array Oper) (x y : Done) : Bool :=
  match ops[x.1]?, ops[y.1]? with
  | some ox, some oy =>
    (match x.2.1.sb with | [] => true | _ => false) && (match ox.dst with | some d => !((oy.looksAt ops).any (Nat.beq d)) | none => true) &&
    (match oy.dst with | some d => !((ox.looksAt ops).any (Nat.beq d)) | none => true) && (match ox.dst, oy.dst with | some d, some d' => !(Nat.beq d d') | _, _ => true) &&
    disj x.2.1.wr (catL RV.ids y.2.2 ++ y.2.1.all) && disj y.2.1.wr (catL RV.ids x.2.2 ++ x.2.1.all)
  | _, _ => false
def waitsT (ops : Array Oper) : Nat → Nat → Nat → Bool
  | 0, j, i => Region.waitsFor .any ops j i
  | n + 1, j, i => Region.waitsFor .any ops j i || (match ops[j]? with
    | some o => o.after.any fun e => Region.binds .any e && waitsT ops n e.on i
    | none => false)
def pairsB (ops : Array Oper) : List Done → Bool
  | [] => true
  | x :: l => (l.all fun y => Region.waitsFor .any ops y.1 x.1 || (indepB ops x y || waitsT ops 3 y.1 x.1)) && pairsB ops l
def runOps (C : Cx) (ops : Array Oper) : List Oper → (St → Option (Ret × Mem)) → St → Option (Ret × Mem)
  | [], K, σ => K σ
  | o :: l, K, σ => (stepO C ops o σ).bind fun r => runOps C ops l K (σ.apply r.1 o.dst)
def runDraw (C : Cx) (ops : Array Oper) : Nat → List Oper → List Done → (St → Option (Ret × Mem)) → St → Option (Ret × Mem)
  | _, [], acc, K, σ => bif pairsB ops acc.reverse && Sx.backB ops then K σ else none
  | i, o :: l, acc, K, σ => (stepO C ops o σ).bind fun r => runDraw C ops (i + 1) l ((i, r) :: acc) K (σ.apply r.1 o.dst)
inductive Ex where
  | normal
  | exit (id : Nat)
  | ret
def keepL (σ : St) : List Nat → List (Nat × HV)
  | [] => []
  | t :: ts => match lookS σ.S t with
    | some x => (t, x) :: keepL σ ts
    | none => keepL σ ts
def keepI (M : Mem) : List Nat → Mem
  | [] => []
  | t :: ts => match lookM M t with
    | some x => (t, x) :: keepI M ts
    | none => keepI M ts
def ownL : List (Nat × Nat × Nat × Nat) → St → St
  | [], σ => σ
  | (t, id, e, sz) :: l, σ => match lookS σ.S t, lookM σ.M id with
    | some .nl, none => bif Nat.blt 0 sz then ownL l (σ.apply (.new id (.reg e sz []) (.o id)) (some t)) else ownL l σ
    | _, _ => ownL l σ
def frzL : List Nat → St → St
  | [], σ => σ
  | t :: l, σ => match lookS σ.S t with
    | some .nl => frzL l (σ.apply (.val (.v (.l []))) (some t))
    | some (.o id) => match lookM σ.M id with
      | some (.reg _ _ rows) => frzL l (σ.apply (.frz [(id, rows)] .un) none)
      | _ => frzL l σ
    | _ => frzL l σ
def HV.only (ids : List Nat) (x : HV) : HV := bif x.every.all (fun i => ids.any (Nat.beq i)) then x else .un
def Ent.only (ids : List Nat) : Ent → Ent
  | .blk cells => .blk (cells.map (HV.only ids))
  | x => x
def prune (h : Hint) (σ : St) : St :=
  let σ := ownL h.own (frzL h.frz σ)
  ⟨(keepL σ h.keep).map fun x => (x.1, x.2.only (pid :: h.ids)), (keepI σ.M (pid :: h.ids)).map fun x => (x.1, x.2.only (pid :: h.ids))⟩
def loopN {α : Type} (step : (St → Option α) → St → Option α) : Nat → St → Option α
  | 0 => fun _ => none
  | n + 1 => step (loopN step n)
def firstR : Code → Nat
  | .region id _ _ => id
  | .seq a _ => firstR a
  | .block _ a => firstR a
  | .loop a => firstR a
  | .scope a => firstR a
  | _ => 0
def runC (N : Nat) (C : Cx) : Code → (Ex → St → Option (Ret × Mem)) → St → Option (Ret × Mem)
  | .skip, K, σ => K .normal σ
  | .label _, K, σ => K .normal σ
  | .scope x, K, σ => runC N C x K σ
  | .ret, K, σ => K .ret σ
  | .exit id, K, σ => K (.exit id) σ
  | .region _ ops d, K, σ => bif d then runDraw C ops 0 ops.toList [] (K .normal) σ else runOps C ops ops.toList (K .normal) σ
  | .seq x y, K, σ => runC N C x (fun e σ => match e with
      | .normal => runC N C y K σ
      | e => K e σ) σ
  | .cond c x y, K, σ => (opv 1 σ c).bind fun v => match v with
      | .v (.b t) => bif t then runC N C x K σ else runC N C y K σ
      | _ => none
  | .block id x, K, σ => runC N C x (fun e σ => match e with
      | .exit id' => bif Nat.beq id' id then K .normal σ else K (.exit id') σ
      | e => K e σ) σ
  | .loop x, K, σ => loopN (fun again σ => runC N C x (fun e σ => match e with
      | .normal => again σ
      | e => K e σ) (prune (C.T.hint C.me (firstR x)) σ)) N σ
  | _, _, _ => none
def resOf (T : Tab) (σ : St) : ResultVar → Option RV
  | .tmp t => (lookS σ.S t).bind (res σ.M)
  | .cell x t => (lookS σ.S x).bind fun p => (res σ.M p).bind fun p => (T.sz t).bind fun k => match p with
    | .p _ off cells => bif k.1 then (sliceL cells off k.2).bind fun cs => (mapO CV.fz cs).bind fun ps => some (.v (.a ps)) else (cells[off]?).bind fun c => c.fz.bind fun p => some (.v p)
    | _ => none
def retOf : List RV → Option Ret
  | [.o _ e sz rows] => some (.ow e sz rows)
  | [.p _ 0 cells] => (mapO CV.fz cells).bind fun cs => some (.pb cs)
  | [x] => x.fz.bind fun y => some (.v y)
  | xs => (mapO RV.fz xs).bind fun ys => some (.v (.t ys))
def initS : Nat → List HV → List (Nat × HV)
  | _, [] => []
  | k, v :: vs => (k, v) :: initS (k + 1) vs
structure Orc where
  a : Nat → Option (List PV → Option Ret)
  b : Nat → Option (List HV → List PV → Option (PV × List PV))
def Orc.none : Orc := ⟨fun _ => .none, fun _ => .none⟩
def HV.pv : HV → Option PV
  | .v x => some x
  | _ => none
def pureCells (M : Mem) : Option (List PV) := match lookM M pid with
  | some (.blk hs) => mapO HV.pv hs
  | _ => none
def retPV : Ret → Option PV
  | .v x => some x
  | .ow _ _ rows => some (.l rows)
  | .pb _ => none
def callA (orc : Orc) (r : Nat → List HV → Mem → Option (Ret × Mem)) : CallF := fun g ps => match orc.a g with
  | some o => o ps
  | none => (r g (ps.map .v) []).bind fun r => some r.1
def callB (orc : Orc) (r : Nat → List HV → Mem → Option (Ret × Mem)) : CallB := fun g hs ps => match orc.b g with
  | some o => o hs ps
  | none => (r g hs [(pid, .blk (ps.map .v))]).bind fun r => (pureCells r.2).bind fun ps' => (retPV r.1).bind fun x => some (x, ps')
def endK (T : Tab) (M : Mem) (res : List ResultVar) (e : Ex) (σ : St) : Option (Ret × Mem) := match e with
  | .exit _ => none
  | _ => (mapO (resOf T σ) res).bind fun rs => (retOf rs).bind fun r => bif M.isEmpty || rs.all RV.still then some (r, σ.M) else none
def runF (T : Tab) (orc : Orc) : Nat → Nat → List HV → Mem → Option (Ret × Mem)
  | 0, _, _, _ => none
  | N + 1, f, args, M => match T.fn f with
    | none => none
    | some fi => bif Nat.ble args.length fi.ntmps then runC N ⟨T, callA orc (runF T orc N), callB orc (runF T orc N), f, fi.ntmps⟩ fi.body (endK T M fi.results) ⟨initS 0 args, M⟩ else none
def run (T : Tab) (orc : Orc) (N f : Nat) (ps : List PV) : Option Ret := (runF T orc N f (ps.map .v) []).bind fun r => some r.1
def runB (T : Tab) (orc : Orc) (N f : Nat) (hs : List HV) (ps : List PV) : Option (PV × List PV) := (runF T orc N f hs [(pid, .blk (ps.map .v))]).bind fun r => (pureCells r.2).bind fun ps' => (retPV r.1).bind fun x => some (x, ps')
end Go.Rx
namespace Go.Rx
open Go.RowKit Go.Sx
def Al {α β : Type} (R : α → β → Prop) (xs : List α) (ys : List β) : Prop := xs.length = ys.length ∧ ∀ (i : Nat) x y, xs[i]? = some x → ys[i]? = some y → R x y
section
variable {α β : Type} {R R' : α → β → Prop} {xs : List α} {ys : List β}
theorem Al.nil : Al R [] [] := ⟨rfl, fun i x y h => by simp at h⟩
theorem Al.cons {x : α} {y : β} (h : R x y) (hs : Al R xs ys) : Al R (x :: xs) (y :: ys) := ⟨by simp [hs.1], fun i a b ha hb => by
  cases i with
  | zero => simp at ha hb; subst ha; subst hb; exact h
  | succ i => simp at ha hb; exact hs.2 i a b ha hb⟩
theorem Al.nil_left (h : Al R [] ys) : ys = [] := List.eq_nil_of_length_eq_zero h.1.symm
theorem Al.cons_left {x : α} (h : Al R (x :: xs) ys) : ∃ y ys', ys = y :: ys' ∧ R x y ∧ Al R xs ys' := by
  cases ys with
  | nil => have := h.1; simp at this
  | cons y ys' => exact ⟨y, ys', rfl, h.2 0 x y rfl rfl, by have := h.1; simpa using this, fun i a b ha hb => h.2 (i + 1) a b (by simpa using ha) (by simpa using hb)⟩
theorem Al.imp (h : Al R xs ys) (hi : ∀ x y, x ∈ xs → R x y → R' x y) : Al R' xs ys := ⟨h.1, fun i x y hx hy => hi x y (List.mem_of_getElem? hx) (h.2 i x y hx hy)⟩
theorem Al.get (h : Al R xs ys) {i : Nat} {x : α} (hx : xs[i]? = some x) : ∃ y, ys[i]? = some y ∧ R x y := by
  have hl := (List.getElem?_eq_some_iff.1 hx).1
  have : i < ys.length := by rw [← h.1]; exact hl
  exact ⟨ys[i], List.getElem?_eq_getElem this, h.2 i x _ hx (List.getElem?_eq_getElem this)⟩
theorem Al.append {xs' : List α} {ys' : List β} (h : Al R xs ys) (h' : Al R xs' ys') : Al R (xs ++ xs') (ys ++ ys') := ⟨by simp [h.1, h'.1], fun i x y hx hy => by
  rw [List.getElem?_append] at hx hy
  rw [h.1] at hx
  split at hx
  · rename_i hl
    rw [if_pos hl] at hy; exact h.2 i x y hx hy
  · rename_i hl
    rw [if_neg hl] at hy; exact h'.2 _ x y hx hy⟩
theorem Al.take (h : Al R xs ys) (k : Nat) : Al R (xs.take k) (ys.take k) := ⟨by simp [h.1], fun i x y hx hy => by
  rw [List.getElem?_take] at hx hy
  split at hx
  · rename_i hl
    rw [if_pos hl] at hy; exact h.2 i x y hx hy
  · cases hx⟩
theorem Al.drop (h : Al R xs ys) (k : Nat) : Al R (xs.drop k) (ys.drop k) := ⟨by simp [h.1], fun i x y hx hy => by
  rw [List.getElem?_drop] at hx hy; exact h.2 _ x y hx hy⟩
theorem Al.set (h : Al R xs ys) {x : α} {y : β} (hxy : R x y) (k : Nat) : Al R (xs.set k x) (ys.set k y) := ⟨by simp [h.1], fun i a b ha hb => by
  rw [List.getElem?_set] at ha hb
  split at ha
  · rename_i e
    rw [if_pos e] at hb
    split at ha
    · split at hb
      · cases ha; cases hb; exact hxy
      · cases hb
    · cases ha
  · rename_i e
    rw [if_neg e] at hb; exact h.2 i a b ha hb⟩
theorem Al.repl {x : α} {y : β} (h : R x y) (k : Nat) : Al R (replL x k) (List.replicate k y) := by
  induction k with
  | zero => exact Al.nil
  | succ k ih => exact Al.cons h ih
theorem Al.map_left {γ : Type} {f : γ → α} {zs : List γ} (h : Al (fun z y => R (f z) y) zs ys) : Al R (zs.map f) ys := ⟨by simp [h.1], fun i x y hx hy => by
  rw [List.getElem?_map, Option.map_eq_some_iff] at hx
  obtain ⟨z, hz, rfl⟩ := hx
  exact h.2 i z y hz hy⟩
theorem Al.map_left_inv {γ : Type} {f : γ → α} {zs : List γ} (h : Al R (zs.map f) ys) : Al (fun z y => R (f z) y) zs ys := ⟨by have := h.1; simpa using this, fun i z y hz hy => h.2 i (f z) y (by rw [List.getElem?_map, hz]; rfl) hy⟩
end
inductive Loc where
  | blk (b : Nat)
  | reg (a : Option Addr) (cap len sz : Nat)
def Loc.bl : Loc → Option Nat
  | .blk b => some b
  | .reg a _ _ _ => a.map (·.block)
abbrev Own := Nat → Option Loc
inductive RP (F : Nat → Prop) (w : World) : PV → Value → Prop
  | n (k : IntKind) (x : Int) : RP F w (.n k x) (.int k x)
  | b (x : Bool) : RP F w (.b x) (.bool x)
  | s (x : ByteArray) : RP F w (.s x) (.string x)
  | ni : RP F w .ni .nilIface
  | np : RP F w .np (.pointer none)
  | nf : RP F w .nf .nilFunc
  | a (cs : List PV) (vs : List Value) (hl : cs.length = vs.length) (h1 : ∀ v ∈ vs, v.oneCell' = true) (h : ∀ (i : Nat) p v, cs[i]? = some p → vs[i]? = some v → RP F w p v) : RP F w (.a cs) (.agg vs.toArray)
  | t (cs : List PV) (vs : List Value) (hl : cs.length = vs.length) (h : ∀ (i : Nat) p v, cs[i]? = some p → vs[i]? = some v → RP F w p v) : RP F w (.t cs) (.tuple vs.toArray)
  | l0 (ad : Option Addr) (c : Nat) : RP F w (.l []) (.slice ad 0 c)
  | l (rows : List (List PV)) (b off n c sz : Nat) (g : Nat → Nat → Value) (hn : n = rows.length) (hcap : n ≤ c) (hs : ∀ r ∈ rows, r.length = sz) (hF : F b)
      (hc : ∀ j t, j < n → t < sz → w.cell? ⟨b, off + (j * sz + t), none⟩ = some (g j t) ∧ (g j t).oneCell' = true)
      (h : ∀ (j : Nat) r (t : Nat) p, rows[j]? = some r → r[t]? = some p → RP F w p (g j t)) : RP F w (.l rows) (.slice (some ⟨b, off, none⟩) n c)
  | z (rows : List (List PV)) (b off sz j o : Nat) (g : Nat → Nat → Value) (hs : ∀ r ∈ rows, r.length = sz) (hF : F b)
      (hc : ∀ j t, j < rows.length → t < sz → w.cell? ⟨b, off + (j * sz + t), none⟩ = some (g j t) ∧ (g j t).oneCell' = true)
      (h : ∀ (j : Nat) r (t : Nat) p, rows[j]? = some r → r[t]? = some p → RP F w p (g j t)) : RP F w (.z rows j o) (.pointer (some ⟨b, off + (j * sz + o), none⟩))
  | c (cells : List PV) (vs : List Value) (b o : Nat) (ty : TypeId) (hF : F b) (hb : w.heap[b]? = some (.cells vs.toArray ty)) (hl : cells.length = vs.length) (h1 : ∀ v ∈ vs, v.oneCell' = true)
      (h : ∀ (i : Nat) p v, cells[i]? = some p → vs[i]? = some v → RP F w p v) : RP F w (.c cells o) (.pointer (some ⟨b, o, none⟩))
  | f (fn : Nat) (first cap : List PV) (fs cs : List Value) (hl : first.length = fs.length) (hm : cap.length = cs.length) (h : ∀ (i : Nat) p v, first[i]? = some p → fs[i]? = some v → RP F w p v)
      (h' : ∀ (i : Nat) p v, cap[i]? = some p → cs[i]? = some v → RP F w p v) : RP F w (.f fn first cap) (.func (.func fn) fs.toArray cs.toArray)
theorem cell_same {w w' : World} {b o : Nat} (h : w'.heap[b]? = w.heap[b]?) : w'.cell? ⟨b, o, none⟩ = w.cell? ⟨b, o, none⟩ := World.cell?_of_block (a := ⟨b, o, none⟩) h
theorem RP.mono {F F' : Nat → Prop} {w w' : World} (hF : ∀ k, F k → F' k ∧ w'.heap[k]? = w.heap[k]?) {p : PV} {v : Value} (h : RP F w p v) : RP F' w' p v := by
  induction h with
  | n k x => exact .n k x
  | b x => exact .b x
  | s x => exact .s x
  | ni => exact .ni
  | np => exact .np
  | nf => exact .nf
  | a cs vs hl h1 _ ih => exact .a cs vs hl h1 ih
  | t cs vs hl _ ih => exact .t cs vs hl ih
  | l0 ad c => exact .l0 ad c
  | l rows b off n c sz g hn hcap hs hf hc _ ih => exact .l rows b off n c sz g hn hcap hs (hF b hf).1 (fun j t hj ht => by rw [cell_same (hF b hf).2]; exact hc j t hj ht) ih
  | z rows b off sz j o g hs hf hc _ ih => exact .z rows b off sz j o g hs (hF b hf).1 (fun j t hj ht => by rw [cell_same (hF b hf).2]; exact hc j t hj ht) ih
  | c cells vs b o ty hf hb hl h1 _ ih => exact .c cells vs b o ty (hF b hf).1 (by rw [(hF b hf).2]; exact hb) hl h1 ih
  | f fn first cap fs cs hl hm _ _ ih ih' => exact .f fn first cap fs cs hl hm ih ih'
theorem RP.flat1 {F F' : Nat → Prop} {w w' : World} {p : PV} {v : Value} (h : RP F w p v) (hp : p.flat1 = true) : RP F' w' p v := by
  cases h <;> first | (simp [PV.flat1] at hp; done) | constructor
theorem RP.flat2 {F F' : Nat → Prop} {w w' : World} {p : PV} {v : Value} (h : RP F w p v) (hp : p.flat2 = true) : RP F' w' p v := by
  cases p with
  | a cs =>
    cases h with
    | a _ vs hl h1 h =>
      exact .a cs vs hl h1 fun i p v hi hv => (h i p v hi hv).flat1 (List.all_eq_true.1 hp p (List.mem_of_getElem? hi))
  | _ => exact h.flat1 hp
theorem RP.flat {F F' : Nat → Prop} {w w' : World} {p : PV} {v : Value} (h : RP F w p v) (hp : p.flat = true) : RP F' w' p v := by
  cases p with
  | t cs =>
    cases h with
    | t _ vs hl h =>
      exact .t cs vs hl fun i p v hi hv => (h i p v hi hv).flat2 (List.all_eq_true.1 hp p (List.mem_of_getElem? hi))
  | _ => exact h.flat2 hp
def RCp (ρ : Own) (F : Nat → Prop) (w : World) : Cap → Value → Prop
  | .v x, v => RP F w x v
  | .p id off, v => ∃ b, ρ id = some (.blk b) ∧ v = .pointer (some ⟨b, off, none⟩)
def RH (ρ : Own) (F : Nat → Prop) (w : World) : HV → Value → Prop
  | .v x, v => RP F w x v
  | .nl, v => v = .slice none 0 0
  | .o id, v => ∃ a c k sz, ρ id = some (.reg a c k sz) ∧ v = .slice a k c
  | .p id off, v => ∃ b, ρ id = some (.blk b) ∧ v = .pointer (some ⟨b, off, none⟩)
  | .q id j off, v => ∃ b c k sz, ρ id = some (.reg (some ⟨b, 0, none⟩) c k sz) ∧ v = .pointer (some ⟨b, j * sz + off, none⟩)
  | .g fn first cap, v => ∃ fs cs, v = .func (.func fn) fs.toArray cs.toArray ∧ Al (RP F w) first fs ∧ Al (RCp ρ F w) cap cs
  | .un, _ => True
def EntOk (ρ : Own) (F : Nat → Prop) (w : World) (id : Nat) : Ent → Prop
  | .blk cells => ∃ b vs ty, ρ id = some (.blk b) ∧ w.heap[b]? = some (.cells vs.toArray ty) ∧ Al (RH ρ F w) cells vs ∧ ∀ v ∈ vs, v.oneCell' = true
  | .reg e sz rows => ∃ a c vr, ρ id = some (.reg a c rows.length sz) ∧ 0 < sz ∧ Al (Al (RP F w)) rows vr ∧ (∀ r ∈ rows, r.length = sz) ∧ (∀ v ∈ vr, ∀ u ∈ v, u.oneCell' = true) ∧ w.ownsRow 0 e sz (.slice a rows.length c) rows.length vr.flatten
  | .itr s pos => ∃ b, ρ id = some (.blk b) ∧ w.heap[b]? = some (.stringIter s pos)
structure Env where
  w0 : World
  F0 : Nat → Prop
  W : Nat → Prop
  D : Deferred → Prop
structure MemOk (E : Env) (ρ : Own) (F : Nat → Prop) (M : Mem) (w : World) : Prop where
  ent : ∀ id e, lookM M id = some e → EntOk ρ F w id e
  dom : ∀ id L, ρ id = some L → ∃ e, lookM M id = some e
  apart : ∀ id id' L L' b, ρ id = some L → ρ id' = some L' → L.bl = some b → L'.bl = some b → id = id'
  off : ∀ id L b, ρ id = some L → L.bl = some b → ¬ F b ∧ b < w.heap.size ∧ (E.w0.heap.size ≤ b ∨ E.W b)
  fz : ∀ k, F k → k < w.heap.size ∧ (E.F0 k ∨ E.w0.heap.size ≤ k ∨ E.W k)
  fz0 : ∀ k, E.F0 k → F k
  grow : GrowB E.W E.w0 w
  pin : ∀ b, E.W b → ρ pid = some (.blk b)
structure Rel' (E : Env) (n : Nat) (ρ : Own) (F : Nat → Prop) (σ : St) (a : Act) (w : World) : Prop where
  size : a.tmps.size = n
  defers : ∀ d ∈ a.defers, E.D d
  slots : ∀ t x, lookS σ.S t = some x → ∃ v, a.tmps[t]? = some v ∧ RH ρ F w x v
  mem : MemOk E ρ F σ.M w
def Rel (E : Env) (n : Nat) (σ : St) (a : Act) (w : World) : Prop := ∃ ρ F, Rel' E n ρ F σ a w
theorem RCp.mono {ρ ρ' : Own} {F F' : Nat → Prop} {w w' : World} (hρ : ∀ id b, ρ id = some (.blk b) → ρ' id = some (.blk b)) (hF : ∀ k, F k → F' k ∧ w'.heap[k]? = w.heap[k]?) {x : Cap} {v : Value} (h : RCp ρ F w x v) : RCp ρ' F' w' x v := by
  cases x with
  | v x => exact RP.mono hF h
  | p id off => obtain ⟨b, h1, h2⟩ := h; exact ⟨b, hρ id b h1, h2⟩
structure Turns (sb : List (Nat × Option (List (List PV)))) (ρ ρ' : Own) (F F' : Nat → Prop) (w w' : World) : Prop where
  blk : ∀ id b, ρ id = some (.blk b) → ρ' id = some (.blk b)
  keep : ∀ id L, ρ id = some L → subFind sb id = none → ρ' id = some L
  thaw : ∀ id rows a c k sz, ρ id = some (.reg a c k sz) → subFind sb id = some (some rows) → RP F' w' (.l rows) (.slice a k c) ∧ ∀ b j off, a = some ⟨b, 0, none⟩ → RP F' w' (.z rows j off) (.pointer (some ⟨b, j * sz + off, none⟩))
  fz : ∀ k, F k → F' k ∧ w'.heap[k]? = w.heap[k]?
theorem RH.sub {sb : List (Nat × Option (List (List PV)))} {ρ ρ' : Own} {F F' : Nat → Prop} {w w' : World} (ht : Turns sb ρ ρ' F F' w w') {x : HV} {v : Value} (h : RH ρ F w x v) : RH ρ' F' w' (x.sub sb) v := by
  cases x with
  | v x => exact RP.mono ht.fz h
  | nl => exact h
  | un => trivial
  | p id off => obtain ⟨b, h1, h2⟩ := h; exact ⟨b, ht.blk id b h1, h2⟩
  | g fn first cap =>
    obtain ⟨fs, cs, h1, h2, h3⟩ := h
    exact ⟨fs, cs, h1, h2.imp fun _ _ _ h => h.mono ht.fz, h3.imp fun _ _ _ h => h.mono ht.blk ht.fz⟩
  | o id =>
    obtain ⟨a, c, k, sz, h1, h2⟩ := h
    simp only [HV.sub]
    split
    · rename_i hs; exact ⟨a, c, k, sz, ht.keep id _ h1 hs, h2⟩
    · trivial
    · rename_i rows hs; rw [h2]; exact (ht.thaw id rows a c k sz h1 hs).1
  | q id j off =>
    obtain ⟨b, c, k, sz, h1, h2⟩ := h
    simp only [HV.sub]
    split
    · rename_i hs; exact ⟨b, c, k, sz, ht.keep id _ h1 hs, h2⟩
    · trivial
    · rename_i rows hs; rw [h2]; exact (ht.thaw id rows _ c k sz h1 hs).2 b j off rfl
theorem HV.sub_nil (x : HV) : x.sub [] = x := by cases x <;> rfl
theorem RH.mono {ρ ρ' : Own} {F F' : Nat → Prop} {w w' : World} (hρ : ∀ id L, ρ id = some L → ρ' id = some L) (hF : ∀ k, F k → F' k ∧ w'.heap[k]? = w.heap[k]?) {x : HV} {v : Value} (h : RH ρ F w x v) : RH ρ' F' w' x v := by
  have := RH.sub (sb := []) ⟨fun id b => hρ id _, fun id L h _ => hρ id L h, fun id rows a c k sz _ h => by simp [subFind] at h, hF⟩ h
  rwa [HV.sub_nil] at this
theorem ownsRow_same {w w' : World} {m e sz : Nat} {a : Option Addr} {n c : Nat} {xs : List Value} (h : w.ownsRow m e sz (.slice a n c) n xs) (hb : ∀ b, a.map (·.block) = some b → w'.heap[b]? = w.heap[b]?) : w'.ownsRow m e sz (.slice a n c) n xs := by
  refine ⟨h.1, ?_⟩
  rcases h.2 with h | ⟨g, cap, cur, h1, h2, h3, h4⟩
  · exact .inl h
  · refine .inr ⟨g, cap, cur, h1, h2, ?_, h4⟩
    simp only [Value.slice.injEq] at h1
    rw [hb g (by rw [h1.1]; rfl)]; exact h3
theorem EntOk.sub {sb : List (Nat × Option (List (List PV)))} {ρ ρ' : Own} {F F' : Nat → Prop} {w w' : World} (ht : Turns sb ρ ρ' F F' w w') {id : Nat} {e : Ent} (h : EntOk ρ F w id e) (hk : subFind sb id = none) (hb : ∀ L b, ρ id = some L → L.bl = some b → w'.heap[b]? = w.heap[b]?) : EntOk ρ' F' w' id (e.sub sb) := by
  cases e with
  | blk cells =>
    obtain ⟨b, vs, ty, h1, h2, h3, h4⟩ := h
    refine ⟨b, vs, ty, ht.keep id _ h1 hk, by rw [hb _ b h1 rfl]; exact h2, Al.map_left (h3.imp fun _ _ _ h => RH.sub ht h), h4⟩
  | reg e sz rows =>
    obtain ⟨a, c, vr, h1, h2, h3, h4, h5, h6⟩ := h
    exact ⟨a, c, vr, ht.keep id _ h1 hk, h2, h3.imp fun _ _ _ h => h.imp fun _ _ _ h => h.mono ht.fz, h4, h5, ownsRow_same h6 fun b hb' => hb _ b h1 hb'⟩
  | itr s pos =>
    obtain ⟨b, h1, h2⟩ := h
    exact ⟨b, ht.keep id _ h1 hk, by rw [hb _ b h1 rfl]; exact h2⟩
theorem lookM_map {f : Ent → Ent} {M : Mem} {i : Nat} : lookM (M.map fun x => (x.1, f x.2)) i = (lookM M i).map f := by
  induction M with
  | nil => rfl
  | cons x M ih => simp only [List.map_cons, lookM]; cases Nat.beq x.1 i <;> simp [ih]
theorem lookS_map {f : HV → HV} {S : List (Nat × HV)} {i : Nat} : lookS (S.map fun x => (x.1, f x.2)) i = (lookS S i).map f := by
  induction S with
  | nil => rfl
  | cons x M ih => simp only [List.map_cons, lookS]; cases Nat.beq x.1 i <;> simp [ih]
theorem beq_ne {i j : Nat} (h : i ≠ j) : Nat.beq i j = false := by
  cases hb : Nat.beq i j with
  | false => rfl
  | true => exact absurd (Nat.eq_of_beq_eq_true hb) h
theorem beq_self (i : Nat) : Nat.beq i i = true := Nat.beq_refl i
theorem lookS_same (S : List (Nat × HV)) (i : Nat) (x : HV) : lookS ((i, x) :: S) i = some x := by simp [lookS]
theorem lookS_ne {S : List (Nat × HV)} {i j : Nat} {x : HV} (h : i ≠ j) : lookS ((i, x) :: S) j = lookS S j := by simp [lookS, beq_ne h]
theorem lookM_rem {M : Mem} {i j : Nat} : lookM (remM i M) j = if i = j then none else lookM M j := by
  induction M with
  | nil => simp [remM, lookM]
  | cons x M ih =>
    obtain ⟨k, x⟩ := x
    simp only [remM]
    by_cases e : k = i
    · subst e
      rw [beq_self, cond_true, ih]
      by_cases e2 : k = j
      · simp [e2]
      · simp [e2, lookM, beq_ne e2]
    · rw [beq_ne e, cond_false]
      simp only [lookM]
      by_cases e2 : k = j
      · subst e2; simp [Ne.symm e]
      · rw [beq_ne e2, cond_false, cond_false, ih]
theorem lookM_put {M : Mem} {i j : Nat} {e : Ent} : lookM (putM i e M) j = if i = j then some e else lookM M j := by
  induction M with
  | nil =>
    simp only [putM, lookM]
    by_cases h : i = j
    · subst h; simp
    · simp [h, beq_ne h]
  | cons x M ih =>
    obtain ⟨k, x⟩ := x
    simp only [putM]
    by_cases e : k = i
    · subst e
      rw [beq_self, cond_true]
      simp only [lookM]
      by_cases e2 : k = j
      · subst e2; simp
      · rw [beq_ne e2]; simp [e2]
    · rw [beq_ne e, cond_false]
      simp only [lookM]
      by_cases e2 : k = j
      · subst e2; simp [Ne.symm e]
      · rw [beq_ne e2, cond_false, cond_false, ih]
def upFind : List (Nat × Option Ent) → Nat → Option (Option Ent)
  | [], _ => none
  | (k, x) :: l, i => match upFind l i with
    | some y => some y
    | none => bif Nat.beq k i then some x else none
theorem lookM_ups {l : List (Nat × Option Ent)} : ∀ {M : Mem} {j : Nat}, lookM (ups l M) j = match upFind l j with | some x => x | none => lookM M j := by
  induction l with
  | nil => intro M j; rfl
  | cons x l ih =>
    intro M j
    obtain ⟨i, x⟩ := x
    cases x with
    | none =>
      simp only [ups, upFind, ih]
      cases hu : upFind l j with
      | some y => rfl
      | none =>
        simp only [lookM_rem]
        by_cases e : i = j
        · subst e; simp
        · simp [e, beq_ne e]
    | some y =>
      simp only [ups, upFind, ih]
      cases hu : upFind l j with
      | some y => rfl
      | none =>
        simp only [lookM_put]
        by_cases e : i = j
        · subst e; simp
        · simp [e, beq_ne e]
theorem lookS_sub (sb : List (Nat × Option (List (List PV)))) (S : List (Nat × HV)) (t : Nat) : lookS (subS sb S) t = (lookS S t).map (HV.sub sb) := by
  cases sb with
  | nil => simp only [subS]; cases lookS S t <;> simp [HV.sub_nil]
  | cons y ys => exact lookS_map (f := HV.sub (y :: ys))
theorem Ent.sub_nil (x : Ent) : x.sub [] = x := by
  cases x with
  | blk cells => simp only [Ent.sub]; congr 1; exact (List.map_congr_left fun a _ => HV.sub_nil a).trans (List.map_id _)
  | _ => rfl
theorem lookM_sub (sb : List (Nat × Option (List (List PV)))) (M : Mem) (t : Nat) : lookM (subM sb M) t = (lookM M t).map (Ent.sub sb) := by
  cases sb with
  | nil => simp only [subM]; cases lookM M t <;> simp [Ent.sub_nil]
  | cons y ys => exact lookM_map (f := Ent.sub (y :: ys))
theorem apply_S (σ : St) (e : Eff) (dst : Option Nat) (t : Nat) : lookS (σ.apply e dst).S t = if dst = some t then some e.x else (lookS σ.S t).map (HV.sub e.sb) := by
  unfold St.apply
  cases dst with
  | none => simpa using lookS_sub _ _ _
  | some d =>
    by_cases hd : d = t
    · subst hd; simp [lookS]
    · simp only [lookS_ne hd, Option.some.injEq, hd, if_false]; exact lookS_sub _ _ _
theorem apply_M (σ : St) (e : Eff) (dst : Option Nat) (i : Nat) : lookM (σ.apply e dst).M i = match upFind e.up i with | some x => x | none => (lookM σ.M i).map (Ent.sub e.sb) := by
  show lookM (ups e.up _) i = _
  rw [lookM_ups]
  cases upFind e.up i with
  | some x => rfl
  | none => exact lookM_sub _ _ _
theorem Rel'.apply {E : Env} {n : Nat} {ρ ρ' : Own} {F F' : Nat → Prop} {σ : St} {a : Act} {w w' : World} (h : Rel' E n ρ F σ a w) (e : Eff) (dst : Option Nat) (v : Value)
    (hd : ∀ d, dst = some d → d < n) (ht : Turns e.sb ρ ρ' F F' w w') (hx : RH ρ' F' w' e.x v)
    (hsame : ∀ id L b, upFind e.up id = none → ρ id = some L → L.bl = some b → w'.heap[b]? = w.heap[b]?)
    (hsb : ∀ id, upFind e.up id = none → subFind e.sb id = none)
    (hold : ∀ id, upFind e.up id = none → ρ' id = ρ id)
    (hup : ∀ id x, upFind e.up id = some x → match x with
      | some ent => EntOk ρ' F' w' id ent
      | none => ρ' id = none)
    (hap : ∀ id id' L L' b, ρ' id = some L → ρ' id' = some L' → L.bl = some b → L'.bl = some b → id = id')
    (hoff : ∀ id L b, ρ' id = some L → L.bl = some b → ¬ F' b ∧ b < w'.heap.size ∧ (E.w0.heap.size ≤ b ∨ E.W b))
    (hfz : ∀ k, F' k → k < w'.heap.size ∧ (E.F0 k ∨ E.w0.heap.size ≤ k ∨ E.W k)) (hg : GrowB E.W E.w0 w') : Rel' E n ρ' F' (σ.apply e dst) (a.put dst v) w' := by
  refine ⟨?_, ?_, fun t x hx' => ?_, ⟨fun id ent hl => ?_, fun id L hL => ?_, hap, hoff, hfz, fun k hk => (ht.fz k (h.mem.fz0 k hk)).1, hg, fun b hb => ht.blk pid b (h.mem.pin b hb)⟩⟩
  · unfold Act.put; cases dst <;> simp [h.size]
  · unfold Act.put; cases dst <;> exact h.defers
  · rw [apply_S] at hx'
    by_cases e1 : dst = some t
    · rw [if_pos e1] at hx'
      cases hx'
      subst e1
      have := hd t rfl
      exact ⟨v, by simp [Act.put, h.size, this], hx⟩
    · rw [if_neg e1, Option.map_eq_some_iff] at hx'
      obtain ⟨y, hy, rfl⟩ := hx'
      obtain ⟨u, hu, hr⟩ := h.slots t y hy
      refine ⟨u, ?_, RH.sub ht hr⟩
      cases dst with
      | none => exact hu
      | some d =>
        have : d ≠ t := fun e => e1 (by rw [e])
        simp [Act.put, Array.getElem?_setIfInBounds_ne this, hu]
  · rw [apply_M] at hl
    cases hu : upFind e.up id with
    | some x =>
      rw [hu] at hl
      simp only at hl
      subst hl
      exact hup id _ hu
    | none =>
      rw [hu] at hl
      simp only [Option.map_eq_some_iff] at hl
      obtain ⟨y, hy, rfl⟩ := hl
      exact EntOk.sub ht (h.mem.ent id y hy) (hsb id hu) fun L b hL hb => hsame id L b hu hL hb
  · rw [apply_M]
    cases hu : upFind e.up id with
    | some x =>
      have := hup id x hu
      cases x with
      | none => simp only at this; rw [this] at hL; cases hL
      | some ent => exact ⟨ent, rfl⟩
    | none =>
      rw [hold id hu] at hL
      obtain ⟨y, hy⟩ := h.mem.dom id L hL
      exact ⟨_, by simp [hy]; rfl⟩
end Go.Rx
